/-
  The decimals: Format, whole.
-/
import Derived.Test.YthbeeeclgbpopaaGreatDoorXFa6
import Derived.Test.YthbeeeclgbpopaaGreatDoorXPd4
import Derived.Test.YthbeeeclgbpopaaGreatDoorXIz13
namespace Go.Proofs.YthbeeeclgbpopaaGreatDoor
open Go.RowKit
set_option linter.unusedSimpArgs false
set_option linter.unusedVariables false
set_option maxHeartbeats 8000000
set_option maxRecDepth 100000

theorem itoaZ_any (x : Int) (hx : -9223372036854775808 ≤ x ∧ x ≤ 9223372036854775807) (w : World) (ht : La w) {l : List UInt8} (hl : Hid (fmt x = l)) :
    Calls Tryz.prog 20 #[.int .i64 x] w fun e w' => e = .returned (strV l) ∧ Fr [] w w' := by
  refine Calls.mono (Tryz.strconv_Itoa x (by omega) (by omega) w ht.2) ?_
  rintro e w' ⟨rfl, k, os, rfl⟩
  refine ⟨?_, Fr.grow w k os⟩
  rw [← hl.out]
  unfold Lib.itoa fmt dec
  split
  · rfl
  · rw [show x.toNat = x.natAbs by omega]; rfl
theorem parseP_any (w : World) (s : List UInt8) (mode : Int) (hT : La w) {v : Nat} {e : Int} (h : Hid (dpz 1024 s mode = (v, e))) :
    Calls Tryz.prog 13 #[strV s, .int .i64 mode] w fun r w' => r = .returned (.tuple #[.int .u64 (v : Int), .int .i64 e]) ∧ Fr [] w w' := by
  have hp := parseD_any w s mode hT
  rw [h.out] at hp
  exact hp
/-- The minus of a negative float. -/
def mns (b : Nat) : List UInt8 := if 9223372036854775808 ≤ b then [45] else []
/-- What Format writes of a finite float that is not zero. -/
def Fmt (b z : Nat) (l : List UInt8) : Prop := ∃ n ds x, 1 ≤ n ∧ n ≤ 17 ∧ Dgs z n ds x ∧ dpz 1024 (txt n ds x) 0 = (z, 0) ∧ (∀ m es y, 1 ≤ m → m < n → Dgs z m es y → dpz 1024 (txt m es y) 0 ≠ (z, 0)) ∧ l = mns b ++ txt n ds x
set_option maxHeartbeats 16000000 in
theorem format_any1 (w : World) {b z : Nat} (hb : b < 18446744073709551616) (hk : kindF b = 1) (hz : Hid (b % 9223372036854775808 = z)) (h0 : 0 < z) (hz1 : z < 9218868437227405312) (hT : La w) :
    Calls Tryz.prog 17 #[.int .u64 (b : Int)] w fun r w' => ∃ l, r = .returned (strV l) ∧ Fr [] w w' ∧ Fmt b z l := by
  have HK := hid hk
  have HT := hid hT
  clear hk hT
  have H := Hp.start [] w
  by_cases hm : 9223372036854775808 ≤ b
  · have HI := hid (show (if 9223372036854775808 ≤ b then 9223372036854775808 else 0 : Nat) = 9223372036854775808 from if_pos hm)
    have HMN : Hid (mns b = [45]) := hid (if_pos hm)
    clear hm
    go_enter Tryz.func17, Tryz.ntmps17
    go_wp2_with (first | refine x_q H ?_ | refine x_e (ev_m63I rfl rfl HI) ?_)
    (refine x_c H (kindI_any _ hb HK) ?_; clear H; rintro e w1 ⟨rfl, hF⟩ H; replace hF := hF.kp; skip)
    go_wp2_with (refine x_q H ?_)
    go_loopw [4] (fun s4 wr => ∃ n : Nat, s4 = .int .i64 (n : Int) ∧ 1 ≤ n ∧ n ≤ 17 ∧ Hid (∀ m es y, 1 ≤ m → m < n → Dgs z m es y → dpz 1024 (txt m es y) 0 ≠ (z, 0)) ∧ Hp [] w wr []) (fun v _ => (17 - intOf v).toNat)
    case atStart => exact ⟨1, rfl, by omega, by omega, hid (fun m es y h1 h2 => by omega), H⟩
    case round =>
      clear H
      obtain ⟨n, rfl, hn1, hn2, HALL, H⟩ := hrel
      go_wp2_with fail
      (refine x_c H (digits_any _ hb HK.out hz h0 hz1 hn1 (by omega) (HT.out.fr H.fr)) ?_; clear H; rintro e w1 ⟨ds, x, rfl, hF, hdg⟩ H; replace hF := hF.kp; skip)
      have HDG := hid hdg
      have hdv := hdg.val h0 hn1
      have hxb : -332 ≤ x ∧ x ≤ 310 := by
        obtain ⟨k, h1, h2, _, _, _, hx, _⟩ := hdv
        have := k_bounds h0 hz1 h1 h2
        omega
      have hdl : ds.length = n := by
        obtain ⟨k, _, _, h, _⟩ := hdv
        exact h
      have hfl := fmt_short (x := x) (by omega)
      have hpz := txt_pz hdg h0 hz1 hn1 (by omega) 0
      have h17 : n = 17 → dpz 1024 (txt n ds x) 0 = (z, 0) := fun h => by subst h; exact back_txt hdg h0 hz1
      obtain ⟨A, hA⟩ : ∃ A, ds.take 1 = A := ⟨_, rfl⟩
      obtain ⟨B, hB⟩ : ∃ A, ds.drop 1 = A := ⟨_, rfl⟩
      obtain ⟨F, hF2⟩ : ∃ A, fmt x = A := ⟨_, rfl⟩
      have hAl : A.length ≤ 1 := by rw [← hA, List.length_take]; omega
      have hBl : B.length ≤ 17 := by rw [← hB, List.length_drop]; omega
      rw [hF2] at hfl
      have HA : Hid (ds.take (1 : Int).toNat = A) := hid hA
      have HB : Hid (ds.drop (1 : Int).toNat = B) := hid hB
      have HF := hid hF2
      obtain ⟨C, hC⟩ : ∃ W, [46] ++ B = W := ⟨_, rfl⟩
      obtain ⟨S1, hS1⟩ : ∃ W, A ++ C = W := ⟨_, rfl⟩
      obtain ⟨E, hE⟩ : ∃ W, [101] ++ F = W := ⟨_, rfl⟩
      obtain ⟨S, hS⟩ : ∃ S, txt n ds x = S := ⟨_, rfl⟩
      have hCl : C.length ≤ 18 := by rw [← hC, List.length_append, List.length_singleton]; omega
      have hSl1 : S1.length ≤ 19 := by rw [← hS1, List.length_append]; omega
      have hEl : E.length ≤ 7 := by rw [← hE, List.length_append, List.length_singleton]; omega
      have hS2 : (if 1 < n then S1 ++ E else A ++ E) = S := by
        rw [← hS]; unfold txt
        rw [hA, hB, hF2, ← hS1, ← hE, ← hC]
        split <;> simp
      have hSl : S.length ≤ 26 := by rw [← hS2]; split <;> rw [List.length_append] <;> omega
      rw [hS] at hpz h17
      obtain ⟨V, hV⟩ : ∃ V, dval false 0 (num ds) (x - (n - 1)) = V := ⟨_, rfl⟩
      rw [hV] at hpz
      have HPZ := hid hpz
      have HC := hid hC
      have HS1 := hid hS1
      have HE := hid hE
      have HSS := hid hS
      have H17 := hid h17
      obtain ⟨R, hR⟩ : ∃ R, [45] ++ S = R := ⟨_, rfl⟩
      have HM := hid hR
      clear hA hB hF2 hC hS1 hE hS hdv hdg hV hpz h17 hR
      by_cases hn0 : 1 < n
      · have HS2 := hid (show S1 ++ E = S by rw [if_pos hn0] at hS2; exact hS2)
        clear hS2
        go_wp2_with (first | refine x_e (ev_strHead rfl rfl rfl HA) ?_ | refine x_e (ev_strTail rfl rfl rfl HB) ?_ | refine x_e (ev_strCat (s := [46]) rfl rfl rfl HC (by simp only [List.length_singleton]; omega)) ?_ | refine x_e (ev_strCat rfl rfl rfl HS1 (by omega)) ?_ | refine x_q H ?_)
        (refine x_c H (itoaZ_any x (by omega) _ (HT.out.fr H.fr) HF) ?_; clear H; rintro e w1 ⟨rfl, hF⟩ H; replace hF := hF.kp; skip)
        go_wp2_with (first | refine x_e (ev_strCat (s := [101]) rfl rfl rfl HE (by simp only [List.length_singleton]; omega)) ?_ | refine x_e (ev_strCat rfl rfl rfl HS2 (by omega)) ?_)
        (refine x_c H (parseP_any _ S 0 (HT.out.fr H.fr) HPZ) ?_; clear H; rintro e w1 ⟨rfl, hF⟩ H; replace hF := hF.kp; skip)
        go_wp2_with fail
        (refine x_c H (absF_any _ hb (by rw [HK.out]; decide) hz) ?_; clear H; rintro e w1 ⟨rfl, hF⟩ H; replace hF := hF.kp; skip)
        by_cases hVz : V = z
        · have HFM : Hid (Fmt b z R) := hid ⟨n, ds, x, hn1, hn2, HDG.out, by rw [HSS.out, HPZ.out, hVz], HALL.out, by rw [HMN.out, HSS.out, HM.out]⟩
          go_wp2_with (first | refine x_e (ev_strCat (s := [45]) rfl rfl rfl HM (by first | (simp only [List.length_singleton]; omega) | (simp only [List.length_nil]; omega))) ?_ | refine x_q H ?_)
          go_ret
          exact ⟨_, rfl, H.fr, HFM.out⟩
        · have hn17 : n < 17 := by
            have h := H17.out
            rcases Nat.lt_or_ge n 17 with h1 | h1
            · exact h1
            · have h2 := h (by omega)
              rw [HPZ.out] at h2
              exact absurd (congrArg Prod.fst h2) hVz
          have HALL2 : Hid (∀ m es y, 1 ≤ m → m < n + 1 → Dgs z m es y → dpz 1024 (txt m es y) 0 ≠ (z, 0)) := hid (fun m es y h1 h2 h3 => by
            by_cases hmn : m = n
            · subst hmn
              obtain ⟨rfl, rfl⟩ := h3.one HDG.out
              rw [HSS.out, HPZ.out]
              exact fun h => hVz (congrArg Prod.fst h)
            · exact HALL.out m es y h1 (by omega) h3)
          clear HALL H17
          go_wp2_with (refine x_q H ?_)
          go_roundw
          case rel => exact ⟨n + 1, rfl, by omega, by omega, HALL2, H⟩
          case measure => (simp [intOf]; try omega)
      · have HS2 := hid (show A ++ E = S by rw [if_neg hn0] at hS2; exact hS2)
        clear hS2
        go_wp2_with (first | refine x_e (ev_strHead rfl rfl rfl HA) ?_ | refine x_q H ?_)
        (refine x_c H (itoaZ_any x (by omega) _ (HT.out.fr H.fr) HF) ?_; clear H; rintro e w1 ⟨rfl, hF⟩ H; replace hF := hF.kp; skip)
        go_wp2_with (first | refine x_e (ev_strCat (s := [101]) rfl rfl rfl HE (by simp only [List.length_singleton]; omega)) ?_ | refine x_e (ev_strCat rfl rfl rfl HS2 (by omega)) ?_)
        (refine x_c H (parseP_any _ S 0 (HT.out.fr H.fr) HPZ) ?_; clear H; rintro e w1 ⟨rfl, hF⟩ H; replace hF := hF.kp; skip)
        go_wp2_with fail
        (refine x_c H (absF_any _ hb (by rw [HK.out]; decide) hz) ?_; clear H; rintro e w1 ⟨rfl, hF⟩ H; replace hF := hF.kp; skip)
        by_cases hVz : V = z
        · have HFM : Hid (Fmt b z R) := hid ⟨n, ds, x, hn1, hn2, HDG.out, by rw [HSS.out, HPZ.out, hVz], HALL.out, by rw [HMN.out, HSS.out, HM.out]⟩
          go_wp2_with (first | refine x_e (ev_strCat (s := [45]) rfl rfl rfl HM (by first | (simp only [List.length_singleton]; omega) | (simp only [List.length_nil]; omega))) ?_ | refine x_q H ?_)
          go_ret
          exact ⟨_, rfl, H.fr, HFM.out⟩
        · have hn17 : n < 17 := by
            have h := H17.out
            rcases Nat.lt_or_ge n 17 with h1 | h1
            · exact h1
            · have h2 := h (by omega)
              rw [HPZ.out] at h2
              exact absurd (congrArg Prod.fst h2) hVz
          have HALL2 : Hid (∀ m es y, 1 ≤ m → m < n + 1 → Dgs z m es y → dpz 1024 (txt m es y) 0 ≠ (z, 0)) := hid (fun m es y h1 h2 h3 => by
            by_cases hmn : m = n
            · subst hmn
              obtain ⟨rfl, rfl⟩ := h3.one HDG.out
              rw [HSS.out, HPZ.out]
              exact fun h => hVz (congrArg Prod.fst h)
            · exact HALL.out m es y h1 (by omega) h3)
          clear HALL H17
          go_wp2_with (refine x_q H ?_)
          go_roundw
          case rel => exact ⟨n + 1, rfl, by omega, by omega, HALL2, H⟩
          case measure => (simp [intOf]; try omega)
  · have HI := hid (show (if 9223372036854775808 ≤ b then 9223372036854775808 else 0 : Nat) = 0 from if_neg hm)
    have HMN : Hid (mns b = []) := hid (if_neg hm)
    clear hm
    go_enter Tryz.func17, Tryz.ntmps17
    go_wp2_with (first | refine x_q H ?_ | refine x_e (ev_m63I rfl rfl HI) ?_)
    (refine x_c H (kindI_any _ hb HK) ?_; clear H; rintro e w1 ⟨rfl, hF⟩ H; replace hF := hF.kp; skip)
    go_wp2_with (refine x_q H ?_)
    go_loopw [4] (fun s4 wr => ∃ n : Nat, s4 = .int .i64 (n : Int) ∧ 1 ≤ n ∧ n ≤ 17 ∧ Hid (∀ m es y, 1 ≤ m → m < n → Dgs z m es y → dpz 1024 (txt m es y) 0 ≠ (z, 0)) ∧ Hp [] w wr []) (fun v _ => (17 - intOf v).toNat)
    case atStart => exact ⟨1, rfl, by omega, by omega, hid (fun m es y h1 h2 => by omega), H⟩
    case round =>
      clear H
      obtain ⟨n, rfl, hn1, hn2, HALL, H⟩ := hrel
      go_wp2_with fail
      (refine x_c H (digits_any _ hb HK.out hz h0 hz1 hn1 (by omega) (HT.out.fr H.fr)) ?_; clear H; rintro e w1 ⟨ds, x, rfl, hF, hdg⟩ H; replace hF := hF.kp; skip)
      have HDG := hid hdg
      have hdv := hdg.val h0 hn1
      have hxb : -332 ≤ x ∧ x ≤ 310 := by
        obtain ⟨k, h1, h2, _, _, _, hx, _⟩ := hdv
        have := k_bounds h0 hz1 h1 h2
        omega
      have hdl : ds.length = n := by
        obtain ⟨k, _, _, h, _⟩ := hdv
        exact h
      have hfl := fmt_short (x := x) (by omega)
      have hpz := txt_pz hdg h0 hz1 hn1 (by omega) 0
      have h17 : n = 17 → dpz 1024 (txt n ds x) 0 = (z, 0) := fun h => by subst h; exact back_txt hdg h0 hz1
      obtain ⟨A, hA⟩ : ∃ A, ds.take 1 = A := ⟨_, rfl⟩
      obtain ⟨B, hB⟩ : ∃ A, ds.drop 1 = A := ⟨_, rfl⟩
      obtain ⟨F, hF2⟩ : ∃ A, fmt x = A := ⟨_, rfl⟩
      have hAl : A.length ≤ 1 := by rw [← hA, List.length_take]; omega
      have hBl : B.length ≤ 17 := by rw [← hB, List.length_drop]; omega
      rw [hF2] at hfl
      have HA : Hid (ds.take (1 : Int).toNat = A) := hid hA
      have HB : Hid (ds.drop (1 : Int).toNat = B) := hid hB
      have HF := hid hF2
      obtain ⟨C, hC⟩ : ∃ W, [46] ++ B = W := ⟨_, rfl⟩
      obtain ⟨S1, hS1⟩ : ∃ W, A ++ C = W := ⟨_, rfl⟩
      obtain ⟨E, hE⟩ : ∃ W, [101] ++ F = W := ⟨_, rfl⟩
      obtain ⟨S, hS⟩ : ∃ S, txt n ds x = S := ⟨_, rfl⟩
      have hCl : C.length ≤ 18 := by rw [← hC, List.length_append, List.length_singleton]; omega
      have hSl1 : S1.length ≤ 19 := by rw [← hS1, List.length_append]; omega
      have hEl : E.length ≤ 7 := by rw [← hE, List.length_append, List.length_singleton]; omega
      have hS2 : (if 1 < n then S1 ++ E else A ++ E) = S := by
        rw [← hS]; unfold txt
        rw [hA, hB, hF2, ← hS1, ← hE, ← hC]
        split <;> simp
      have hSl : S.length ≤ 26 := by rw [← hS2]; split <;> rw [List.length_append] <;> omega
      rw [hS] at hpz h17
      obtain ⟨V, hV⟩ : ∃ V, dval false 0 (num ds) (x - (n - 1)) = V := ⟨_, rfl⟩
      rw [hV] at hpz
      have HPZ := hid hpz
      have HC := hid hC
      have HS1 := hid hS1
      have HE := hid hE
      have HSS := hid hS
      have H17 := hid h17
      obtain ⟨R, hR⟩ : ∃ R, [] ++ S = R := ⟨_, rfl⟩
      have HM := hid hR
      clear hA hB hF2 hC hS1 hE hS hdv hdg hV hpz h17 hR
      by_cases hn0 : 1 < n
      · have HS2 := hid (show S1 ++ E = S by rw [if_pos hn0] at hS2; exact hS2)
        clear hS2
        go_wp2_with (first | refine x_e (ev_strHead rfl rfl rfl HA) ?_ | refine x_e (ev_strTail rfl rfl rfl HB) ?_ | refine x_e (ev_strCat (s := [46]) rfl rfl rfl HC (by simp only [List.length_singleton]; omega)) ?_ | refine x_e (ev_strCat rfl rfl rfl HS1 (by omega)) ?_ | refine x_q H ?_)
        (refine x_c H (itoaZ_any x (by omega) _ (HT.out.fr H.fr) HF) ?_; clear H; rintro e w1 ⟨rfl, hF⟩ H; replace hF := hF.kp; skip)
        go_wp2_with (first | refine x_e (ev_strCat (s := [101]) rfl rfl rfl HE (by simp only [List.length_singleton]; omega)) ?_ | refine x_e (ev_strCat rfl rfl rfl HS2 (by omega)) ?_)
        (refine x_c H (parseP_any _ S 0 (HT.out.fr H.fr) HPZ) ?_; clear H; rintro e w1 ⟨rfl, hF⟩ H; replace hF := hF.kp; skip)
        go_wp2_with fail
        (refine x_c H (absF_any _ hb (by rw [HK.out]; decide) hz) ?_; clear H; rintro e w1 ⟨rfl, hF⟩ H; replace hF := hF.kp; skip)
        by_cases hVz : V = z
        · have HFM : Hid (Fmt b z R) := hid ⟨n, ds, x, hn1, hn2, HDG.out, by rw [HSS.out, HPZ.out, hVz], HALL.out, by rw [HMN.out, HSS.out, HM.out]⟩
          go_wp2_with (first | refine x_e (ev_strCat (s := []) rfl rfl rfl HM (by first | (simp only [List.length_singleton]; omega) | (simp only [List.length_nil]; omega))) ?_ | refine x_q H ?_)
          go_ret
          exact ⟨_, rfl, H.fr, HFM.out⟩
        · have hn17 : n < 17 := by
            have h := H17.out
            rcases Nat.lt_or_ge n 17 with h1 | h1
            · exact h1
            · have h2 := h (by omega)
              rw [HPZ.out] at h2
              exact absurd (congrArg Prod.fst h2) hVz
          have HALL2 : Hid (∀ m es y, 1 ≤ m → m < n + 1 → Dgs z m es y → dpz 1024 (txt m es y) 0 ≠ (z, 0)) := hid (fun m es y h1 h2 h3 => by
            by_cases hmn : m = n
            · subst hmn
              obtain ⟨rfl, rfl⟩ := h3.one HDG.out
              rw [HSS.out, HPZ.out]
              exact fun h => hVz (congrArg Prod.fst h)
            · exact HALL.out m es y h1 (by omega) h3)
          clear HALL H17
          go_wp2_with (refine x_q H ?_)
          go_roundw
          case rel => exact ⟨n + 1, rfl, by omega, by omega, HALL2, H⟩
          case measure => (simp [intOf]; try omega)
      · have HS2 := hid (show A ++ E = S by rw [if_neg hn0] at hS2; exact hS2)
        clear hS2
        go_wp2_with (first | refine x_e (ev_strHead rfl rfl rfl HA) ?_ | refine x_q H ?_)
        (refine x_c H (itoaZ_any x (by omega) _ (HT.out.fr H.fr) HF) ?_; clear H; rintro e w1 ⟨rfl, hF⟩ H; replace hF := hF.kp; skip)
        go_wp2_with (first | refine x_e (ev_strCat (s := [101]) rfl rfl rfl HE (by simp only [List.length_singleton]; omega)) ?_ | refine x_e (ev_strCat rfl rfl rfl HS2 (by omega)) ?_)
        (refine x_c H (parseP_any _ S 0 (HT.out.fr H.fr) HPZ) ?_; clear H; rintro e w1 ⟨rfl, hF⟩ H; replace hF := hF.kp; skip)
        go_wp2_with fail
        (refine x_c H (absF_any _ hb (by rw [HK.out]; decide) hz) ?_; clear H; rintro e w1 ⟨rfl, hF⟩ H; replace hF := hF.kp; skip)
        by_cases hVz : V = z
        · have HFM : Hid (Fmt b z R) := hid ⟨n, ds, x, hn1, hn2, HDG.out, by rw [HSS.out, HPZ.out, hVz], HALL.out, by rw [HMN.out, HSS.out, HM.out]⟩
          go_wp2_with (first | refine x_e (ev_strCat (s := []) rfl rfl rfl HM (by first | (simp only [List.length_singleton]; omega) | (simp only [List.length_nil]; omega))) ?_ | refine x_q H ?_)
          go_ret
          exact ⟨_, rfl, H.fr, HFM.out⟩
        · have hn17 : n < 17 := by
            have h := H17.out
            rcases Nat.lt_or_ge n 17 with h1 | h1
            · exact h1
            · have h2 := h (by omega)
              rw [HPZ.out] at h2
              exact absurd (congrArg Prod.fst h2) hVz
          have HALL2 : Hid (∀ m es y, 1 ≤ m → m < n + 1 → Dgs z m es y → dpz 1024 (txt m es y) 0 ≠ (z, 0)) := hid (fun m es y h1 h2 h3 => by
            by_cases hmn : m = n
            · subst hmn
              obtain ⟨rfl, rfl⟩ := h3.one HDG.out
              rw [HSS.out, HPZ.out]
              exact fun h => hVz (congrArg Prod.fst h)
            · exact HALL.out m es y h1 (by omega) h3)
          clear HALL H17
          go_wp2_with (refine x_q H ?_)
          go_roundw
          case rel => exact ⟨n + 1, rfl, by omega, by omega, HALL2, H⟩
          case measure => (simp [intOf]; try omega)
end Go.Proofs.YthbeeeclgbpopaaGreatDoor
/-
  The decimals, plain: what is written of 12.5 and of 1.
-/
namespace Go.Proofs.YthbeeeclgbpopaaGreatDoor
set_option linter.unusedSimpArgs false
set_option linter.unusedVariables false
set_option maxRecDepth 100000
theorem fmt_1 : fmt 1 = [49] := by
  unfold fmt
  rw [if_neg (by decide)]
  exact dec_small (by decide)
theorem fmt_0 : fmt 0 = [48] := by
  unfold fmt
  rw [if_neg (by decide)]
  exact dec_small (by decide)
theorem dec_1 : dec 1 = [49] := dec_small (by decide)
theorem dec_12 : dec 12 = [49, 50] := by rw [dec_ten (by decide), show 12 / 10 = 1 from rfl, dec_1]; rfl
theorem dec_125 : dec 125 = [49, 50, 53] := by rw [dec_ten (by decide), show 125 / 10 = 12 from rfl, dec_12]; rfl
theorem dgs_of {b n q : Nat} {ds : List UInt8} (k : Int) (h1 : tenLe (nF b) (dF b) k) (h2 : ¬ tenLe (nF b) (dF b) (k + 1)) (h3 : near (nF b) (dF b) (n - 1 - k) = q) (h4 : dec q = ds) (h5 : ds.length = n) : Dgs b n ds k :=
  ⟨k, h1, h2, by rw [h3, h4, List.take_of_length_le (by omega)], by rw [h3, h4, if_neg (by omega)]⟩
theorem d12_1 : Dgs 4623226492472524800 1 [49] 1 := dgs_of (q := 1) 1 (by unfold tenLe; decide +kernel) (by unfold tenLe; decide +kernel) (by decide +kernel) dec_1 rfl
theorem d12_2 : Dgs 4623226492472524800 2 [49, 50] 1 := dgs_of (q := 12) 1 (by unfold tenLe; decide +kernel) (by unfold tenLe; decide +kernel) (by decide +kernel) dec_12 rfl
theorem d12_3 : Dgs 4623226492472524800 3 [49, 50, 53] 1 := dgs_of (q := 125) 1 (by unfold tenLe; decide +kernel) (by unfold tenLe; decide +kernel) (by decide +kernel) dec_125 rfl
theorem d1_1 : Dgs 4607182418800017408 1 [49] 0 := dgs_of (q := 1) 0 (by unfold tenLe; decide +kernel) (by unfold tenLe; decide +kernel) (by decide +kernel) dec_1 rfl
theorem t12_1 : txt 1 [49] 1 = [49, 101, 49] := by unfold txt; rw [fmt_1]; rfl
theorem t12_2 : txt 2 [49, 50] 1 = [49, 46, 50, 101, 49] := by unfold txt; rw [fmt_1]; rfl
theorem t12_3 : txt 3 [49, 50, 53] 1 = [49, 46, 50, 53, 101, 49] := by unfold txt; rw [fmt_1]; rfl
theorem t1_1 : txt 1 [49] 0 = [49, 101, 48] := by unfold txt; rw [fmt_0]; rfl
theorem fmt_125 {l : List UInt8} (h : Fmt 4623226492472524800 4623226492472524800 l) : l = [49, 46, 50, 53, 101, 49] := by
  obtain ⟨n, ds, x, hn1, hn2, hd, hp, hall, rfl⟩ := h
  have hm : mns 4623226492472524800 = [] := rfl
  have h3 : ¬ 3 < n := fun h => hall 3 _ _ (by decide) h d12_3 (by rw [t12_3]; decide +kernel)
  have hc : n = 1 ∨ n = 2 ∨ n = 3 := by omega
  rcases hc with rfl | rfl | rfl
  · obtain ⟨rfl, rfl⟩ := hd.one d12_1
    rw [t12_1] at hp
    exact absurd hp (by decide +kernel)
  · obtain ⟨rfl, rfl⟩ := hd.one d12_2
    rw [t12_2] at hp
    exact absurd hp (by decide +kernel)
  · obtain ⟨rfl, rfl⟩ := hd.one d12_3
    rw [t12_3, hm]; rfl
theorem fmt_one1 {l : List UInt8} (h : Fmt 4607182418800017408 4607182418800017408 l) : l = [49, 101, 48] := by
  obtain ⟨n, ds, x, hn1, hn2, hd, hp, hall, rfl⟩ := h
  have hm : mns 4607182418800017408 = [] := rfl
  have h3 : ¬ 1 < n := fun h => hall 1 _ _ (by decide) h d1_1 (by rw [t1_1]; decide +kernel)
  obtain rfl : n = 1 := by omega
  obtain ⟨rfl, rfl⟩ := hd.one d1_1
  rw [t1_1, hm]; rfl
end Go.Proofs.YthbeeeclgbpopaaGreatDoor
/-
  The decimals: the sanity check.
-/
namespace Go.Proofs.YthbeeeclgbpopaaGreatDoor
open Go.RowKit
set_option linter.unusedSimpArgs false
set_option linter.unusedVariables false
set_option maxHeartbeats 8000000
set_option maxRecDepth 100000

theorem ev_strEqV {P : Program} {a : Act} {w : World} {o : Oper} {t t' : TypeId} {x y : Operand} (ho : o.op = .binOp .eql t x y t') {s r : List UInt8} (hx : a.eval x = strV s) (hy : a.eval y = strV r) {b : Bool} (hs : Hid ((s == r) = b)) : (execOp a.eval o).run P w = .ok (.value (.bool b)) w := by
  rw [← hs.out]; exact ev_strEq ho hx hy
theorem format_inf (w : World) : Calls Tryz.prog 17 #[.int .u64 18442240474082181120] w fun r w' => r = .returned (strV [45, 105, 110, 102]) ∧ Fr [] w w' := by
  have HK : Hid (kindF 18442240474082181120 = 2) := hid (by decide +kernel)
  have HI : Hid ((if 9223372036854775808 ≤ 18442240474082181120 then 9223372036854775808 else 0 : Nat) = 9223372036854775808) := hid (if_pos (by decide))
  have HM : Hid ([45] ++ [105, 110, 102] = ([45, 105, 110, 102] : List UInt8)) := hid rfl
  have H := Hp.start [] w
  go_enter Tryz.func17, Tryz.ntmps17
  go_wp2_with (first | refine x_q H ?_ | refine x_e (ev_m63I (m := 18442240474082181120) rfl rfl HI) ?_)
  (refine x_c H (kindI_any _ (b := 18442240474082181120) (by decide) HK) ?_; clear H; rintro e w1 ⟨rfl, hF⟩ H; replace hF := hF.kp; skip)
  go_wp2_with (first | refine x_e (ev_strCat (s := [45]) (r := [105, 110, 102]) rfl rfl rfl HM (by decide)) ?_ | refine x_q H ?_)
  go_ret
  exact ⟨rfl, H.fr⟩
theorem format125 (w : World) (hT : La w) : Calls Tryz.prog 17 #[.int .u64 4623226492472524800] w fun r w' => r = .returned (strV [49, 46, 50, 53, 101, 49]) ∧ Fr [] w w' := by
  refine Calls.mono (format_any1 w (b := 4623226492472524800) (z := 4623226492472524800) (by decide) (by decide +kernel) (hid (by decide +kernel)) (by decide) (by decide) hT) ?_
  rintro r w' ⟨l, rfl, hF, hl⟩
  rw [fmt_125 hl]
  exact ⟨rfl, hF⟩
theorem formatOne (w : World) (hT : La w) : Calls Tryz.prog 17 #[.int .u64 4607182418800017408] w fun r w' => r = .returned (strV [49, 101, 48]) ∧ Fr [] w w' := by
  refine Calls.mono (format_any1 w (b := 4607182418800017408) (z := 4607182418800017408) (by decide) (by decide +kernel) (hid (by decide +kernel)) (by decide) (by decide) hT) ?_
  rintro r w' ⟨l, rfl, hF, hl⟩
  rw [fmt_one1 hl]
  exact ⟨rfl, hF⟩
theorem parse125 (w : World) (hT : La w) : Calls Tryz.prog 13 #[.string (ByteArray.mk #[49, 46, 50, 53, 100, 49]), .int .i64 0] w fun r w' => r = .returned (.tuple #[.int .u64 4623226492472524800, .int .i64 0]) ∧ Fr [] w w' :=
  parseP_any w [49, 46, 50, 53, 100, 49] 0 hT (v := 4623226492472524800) (e := 0) (hid awake_pz.1)
theorem parse1e (w : World) (hT : La w) : Calls Tryz.prog 13 #[.string (ByteArray.mk #[49, 101]), .int .i64 0] w fun r w' => r = .returned (.tuple #[.int .u64 0, .int .i64 7]) ∧ Fr [] w w' :=
  parseP_any w [49, 101] 0 hT (v := 0) (e := 7) (hid awake_pz.2)
theorem awakeD_any (w : World) (hT : La w) : Calls Tryz.prog 12 #[] w fun e w' => e = .returned (.bool true) ∧ Fr [] w w' := by
  have HT := hid hT
  have E1 : Hid ((([49, 46, 50, 53, 101, 49] : List UInt8) == [49, 46, 50, 53, 101, 49]) = true) := hid rfl
  have E2 : Hid ((([49, 101, 48] : List UInt8) == [49, 101, 48]) = true) := hid rfl
  have E3 : Hid ((([45, 105, 110, 102] : List UInt8) == [45, 105, 110, 102]) = true) := hid rfl
  clear hT
  have H := Hp.start [] w
  go_enter Tryz.func12, Tryz.ntmps12
  go_wp2_with fail
  (refine x_c H (parse125 _ (HT.out.fr H.fr)) ?_; clear H; rintro e w1 ⟨rfl, hF⟩ H; replace hF := hF.kp; skip)
  go_wp2_with fail
  (refine x_c H (parse1e _ (HT.out.fr H.fr)) ?_; clear H; rintro e w1 ⟨rfl, hF⟩ H; replace hF := hF.kp; skip)
  go_wp2_with (refine x_q H ?_)
  (refine x_c H (format125 _ (HT.out.fr H.fr)) ?_; clear H; rintro e w1 ⟨rfl, hF⟩ H; replace hF := hF.kp; skip)
  go_wp2_with (refine x_e (ev_strEqV (r := [49, 46, 50, 53, 101, 49]) rfl rfl rfl E1) ?_)
  (refine x_c H (formatOne _ (HT.out.fr H.fr)) ?_; clear H; rintro e w1 ⟨rfl, hF⟩ H; replace hF := hF.kp; skip)
  go_wp2_with (refine x_e (ev_strEqV (r := [49, 101, 48]) rfl rfl rfl E2) ?_)
  (refine x_c H (format_inf _) ?_; clear H; rintro e w1 ⟨rfl, hF⟩ H; replace hF := hF.kp; skip)
  go_wp2_with (refine x_e (ev_strEqV (r := [45, 105, 110, 102]) rfl rfl rfl E3) ?_)
  go_ret
  exact ⟨rfl, H.fr⟩
theorem la_of {W : World} (h : laidMetH Tryz.prog laid7 W) : La W := ⟨laid_tab7 h, laid_pow7 h⟩
end Go.Proofs.YthbeeeclgbpopaaGreatDoor
