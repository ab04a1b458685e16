import Derived.Test.YthbeeeclgbpopaaGreatDoorYHb2
import Derived.Test.YthbeeeclgbpopaaGreatDoorYFb2
import Derived.Test.YthbeeeclgbpopaaGreatDoorYWa2
import Derived.Test.YthbeeeclgbpopaaGreatDoorYFa8
namespace Go.Proofs.YthbeeeclgbpopaaGreatDoor
open Go.RowKit
set_option linter.unusedSimpArgs false
set_option linter.unusedVariables false
set_option maxHeartbeats 16000000
set_option maxRecDepth 100000

theorem Fmt.one {b z : Nat} {l m : List UInt8} (h : Fmt b z l) (g : Fmt b z m) : l = m := by
 obtain ⟨n, ds, x, h1, h2, h3, h4, h5, rfl⟩ := h
 obtain ⟨k, es, y, g1, g2, g3, g4, g5, rfl⟩ := g
 rcases Nat.lt_trichotomy n k with hh | hh | hh
 ·exact absurd h4 (g5 n ds x h1 hh h3)
 ·subst hh
  obtain ⟨rfl, rfl⟩ := h3.one g3
  rfl
 ·exact absurd g4 (h5 k es y g1 hh g3)
theorem rformatS_any (w : World) {b : Nat} {k : Int} (hb : b < 18446744073709551616) (hk : Hid (kindF b = k)) (hk1 : k ≠ 1) {l : List UInt8} (hl : Hid (fmtS b k = l)) :
  Calls Tryz.prog 25 #[.int .u64 (b : Int)] w fun r w' => r = .returned (strV l) ∧ Fr [] w w' := by
 have hkr := kindF_range b
 rw [hk.out] at hkr
 have hl1 := hl.out
 unfold fmtS at hl1
 obtain ⟨n, hn⟩ : ∃ n, decide (9223372036854775808 ≤ b) = n := ⟨_, rfl⟩
 rw [mns_of hn] at hl1
 have HN := hid hn
 have H := Hp.start [] w
 clear hl hn
 obtain rfl | rfl | rfl : k = 0 ∨ k = 2 ∨ k = 3 := by omega
 ·rw [if_neg (by decide), if_neg (by decide)] at hl1
  have HM := hid hl1
  clear hl1 hk1 hkr
  cases n
  ·have HM2 : Hid ([] ++ [48] = l) := hid (by have := HM.out; simpa using this)
   go_enter Tryz.func25, Tryz.ntmps25
   go_wp2_with fail
   (refine x_c H (rminus_any _ hb HN) ?_; clear H; rintro e w1 ⟨rfl, hF⟩ H; replace hF := hF.kp)
   go_wp2_with fail
   (refine x_c H (rkind_any _ hb hk) ?_; clear H; rintro e w1 ⟨rfl, hF⟩ H; replace hF := hF.kp)
   go_wp2_with (first | refine x_q H ?_ | refine x_e (ev_strCat (s := []) (r := [48]) rfl rfl rfl HM2 (by decide)) ?_)
   go_ret
   exact ⟨rfl, H.fr⟩
  ·have HM2 : Hid ([45] ++ [48] = l) := hid (by have := HM.out; simpa using this)
   go_enter Tryz.func25, Tryz.ntmps25
   go_wp2_with fail
   (refine x_c H (rminus_any _ hb HN) ?_; clear H; rintro e w1 ⟨rfl, hF⟩ H; replace hF := hF.kp)
   go_wp2_with fail
   (refine x_c H (rkind_any _ hb hk) ?_; clear H; rintro e w1 ⟨rfl, hF⟩ H; replace hF := hF.kp)
   go_wp2_with (first | refine x_q H ?_ | refine x_e (ev_strCat (s := [45]) (r := [48]) rfl rfl rfl HM2 (by decide)) ?_)
   go_ret
   exact ⟨rfl, H.fr⟩
 ·rw [if_neg (by decide), if_pos rfl] at hl1
  have HM := hid hl1
  clear hl1 hk1 hkr
  cases n
  ·have HM2 : Hid ([] ++ [105, 110, 102] = l) := hid (by have := HM.out; simpa using this)
   go_enter Tryz.func25, Tryz.ntmps25
   go_wp2_with fail
   (refine x_c H (rminus_any _ hb HN) ?_; clear H; rintro e w1 ⟨rfl, hF⟩ H; replace hF := hF.kp)
   go_wp2_with fail
   (refine x_c H (rkind_any _ hb hk) ?_; clear H; rintro e w1 ⟨rfl, hF⟩ H; replace hF := hF.kp)
   go_wp2_with (first | refine x_q H ?_ | refine x_e (ev_strCat (s := []) (r := [105, 110, 102]) rfl rfl rfl HM2 (by decide)) ?_)
   go_ret
   exact ⟨rfl, H.fr⟩
  ·have HM2 : Hid ([45] ++ [105, 110, 102] = l) := hid (by have := HM.out; simpa using this)
   go_enter Tryz.func25, Tryz.ntmps25
   go_wp2_with fail
   (refine x_c H (rminus_any _ hb HN) ?_; clear H; rintro e w1 ⟨rfl, hF⟩ H; replace hF := hF.kp)
   go_wp2_with fail
   (refine x_c H (rkind_any _ hb hk) ?_; clear H; rintro e w1 ⟨rfl, hF⟩ H; replace hF := hF.kp)
   go_wp2_with (first | refine x_q H ?_ | refine x_e (ev_strCat (s := [45]) (r := [105, 110, 102]) rfl rfl rfl HM2 (by decide)) ?_)
   go_ret
   exact ⟨rfl, H.fr⟩
 ·rw [if_pos rfl] at hl1
  have HM := hid hl1
  clear hl1 hk1 hkr
  go_enter Tryz.func25, Tryz.ntmps25
  go_wp2_with fail
  (refine x_c H (rminus_any _ hb HN) ?_; clear H; rintro e w1 ⟨rfl, hF⟩ H; replace hF := hF.kp)
  cases n
  all_goals
   go_wp2_with fail
   (refine x_c H (rkind_any _ hb hk) ?_; clear H; rintro e w1 ⟨rfl, hF⟩ H; replace hF := hF.kp)
   go_wp2_with (refine x_q H ?_)
   go_ret
   exact ⟨by rw [← HM.out]; rfl, H.fr⟩
set_option maxHeartbeats 32000000 in
theorem rformat1_any (w : World) {b z : Nat} (hb : b < 18446744073709551616) (hk : kindF b = 1) (hk2 : b / 4503599627370496 % 2048 ≠ 2047) (hz : Hid (b % 9223372036854775808 = z)) (h0 : 0 < z) (hz1 : z < 9218868437227405312) (hT : La w) :
  Calls Tryz.prog 25 #[.int .u64 (b : Int)] w fun r w' => ∃ l, r = .returned (strV l) ∧ Fr [] w w' ∧ Fmt b z l := by
 have HK := hid hk
 have HK2 := hid hk2
 have HT := hid hT
 obtain ⟨nb, hn⟩ : ∃ n, decide (9223372036854775808 ≤ b) = n := ⟨_, rfl⟩
 have HN := hid hn
 obtain ⟨mn, hmn⟩ : ∃ m : List UInt8, (if nb then [45] else []) = m := ⟨_, rfl⟩
 have hml : mn.length ≤ 1 := by rw [← hmn]; split <;> decide
 have HMN : Hid (mns b = mn) := hid ((mns_of hn).trans hmn)
 have HMM := hid hmn
 clear hk hk2 hT hn hmn
 have H := Hp.start [] w
 go_enter Tryz.func25, Tryz.ntmps25
 go_wp2_with fail
 (refine x_c H (rminus_any _ hb HN) ?_; clear H; rintro e w1 ⟨rfl, hF⟩ H; replace hF := hF.kp)
 go_upto_if 9 with fail
 go_cut [3] (fun s3 wx => s3 = strV mn ∧ Hp [] w wx [])
 case first =>
  cases nb
  ·obtain rfl : mn = [] := HMM.out.symm
   go_wp2_with fail
   go_meet
   case rel => exact ⟨rfl, H⟩
  ·obtain rfl : mn = [45] := HMM.out.symm
   go_wp2_with fail
   go_meet
   case rel => exact ⟨rfl, H⟩
 case rest =>
  clear H HMM
  obtain ⟨rfl, H⟩ := hcut
  go_wp2_with fail
  (refine x_c H (rkind_any _ hb HK) ?_; clear H; rintro e w1 ⟨rfl, hF⟩ H; replace hF := hF.kp)
  go_wp2_with (refine x_q H ?_)
  go_loopw [4, 5, 6, 7] (fun s4 s5 s6 s7 wr => ∃ n : Nat, s4 = .int .i64 (n : Int) ∧ 1 ≤ n ∧ n ≤ 17 ∧ Hid (∀ m es y, 1 ≤ m → m < n → Dgs z m es y → dpz 1024 (txt m es y) 0 ≠ (z, 0)) ∧ Hp [] w wr []) (fun v _ _ _ _ => (17 - intOf v).toNat)
  case atStart => exact ⟨1, rfl, by omega, by omega, hid (fun m es y h1 h2 => by omega), H⟩
  case round =>
   clear H
   obtain ⟨n, rfl, hn1, hn2, HALL, H⟩ := hrel
   go_wp2_with fail
   (refine x_c H (rdigits_any _ rfl hb HK.out HK2.out hz h0 hz1 hn1 (by omega) (HT.out.fr H.fr)) ?_; clear H; rintro e w1 ⟨ds, x, rfl, hF, hdg⟩ H; replace hF := hF.kp)
   have HDG := hid hdg
   have hdv := hdg.val h0 hn1
   obtain ⟨hxb, hdl, hdd⟩ : (-332 ≤ x ∧ x ≤ 310) ∧ ds.length = n ∧ ds.all dig = true := by
    obtain ⟨k, h1, h2, h3, h4, _, hx, _⟩ := hdv
    have := k_bounds h0 hz1 h1 h2
    exact ⟨by omega, h3, h4⟩
   have hne : ds ≠ [] := by intro h; rw [h] at hdl; simp at hdl; omega
   have hfl := fmt_short (x := x) (by omega)
   have hpz := txt_pz hdg h0 hz1 hn1 (by omega) 0
   have h17 : n = 17 → dpz 1024 (txt n ds x) 0 = (z, 0) := fun h => by subst h; exact back_txt hdg h0 hz1
   obtain ⟨V, hV⟩ : ∃ V, dval false 0 (num ds) (x - (n - 1)) = V := ⟨_, rfl⟩
   have HVV : Hid (V = dval false 0 (num ds) (x - (n : Int) + 1)) := hid (by rw [← hV]; congr 1; omega)
   rw [hV] at hpz
   have hVn : V ≠ z → n < 17 := fun h => by
    apply Classical.byContradiction
    intro hc
    have := h17 (by omega)
    rw [hpz] at this
    injection this with h1
    exact h h1
   have HPZ := hid hpz
   have HDD := hid hdd
   have HNE := hid hne
   have hdl1 : ds.length ≤ n := by omega
   have hdl2 : n ≤ ds.length := by omega
   clear hdv hdg hpz hV h17 hdl hdd hne
   by_cases hVz : V = z
   ·subst hVz
    obtain ⟨A, hA⟩ : ∃ A, ds.take 1 = A := ⟨_, rfl⟩
    obtain ⟨B, hB⟩ : ∃ A, ds.drop 1 = A := ⟨_, rfl⟩
    obtain ⟨F, hF2⟩ : ∃ A, fmt x = A := ⟨_, rfl⟩
    have hAl : A.length ≤ 1 := by rw [← hA, List.length_take]; omega
    have hBl : B.length ≤ 17 := by rw [← hB, List.length_drop]; omega
    rw [hF2] at hfl
    have HA : Hid (ds.take (1 : Int).toNat = A) := hid hA
    have HB : Hid (ds.drop (1 : Int).toNat = B) := hid hB
    have HF := hid hF2
    obtain ⟨C, hC⟩ : ∃ W, A ++ [46] = W := ⟨_, rfl⟩
    obtain ⟨S1, hS1⟩ : ∃ W, C ++ B = W := ⟨_, rfl⟩
    have hCl : C.length ≤ 2 := by rw [← hC, List.length_append, List.length_singleton]; omega
    have hSl1 : S1.length ≤ 19 := by rw [← hS1, List.length_append]; omega
    obtain ⟨S, hS⟩ : ∃ S, (if 1 < n then S1 else ds) = S := ⟨_, rfl⟩
    have hSl : S.length ≤ 19 := by rw [← hS]; split <;> omega
    obtain ⟨R1, hR1⟩ : ∃ W, mn ++ S = W := ⟨_, rfl⟩
    obtain ⟨R2, hR2⟩ : ∃ W, R1 ++ [101] = W := ⟨_, rfl⟩
    obtain ⟨R3, hR3⟩ : ∃ W, R2 ++ F = W := ⟨_, rfl⟩
    have hRl1 : R1.length ≤ 20 := by rw [← hR1, List.length_append]; omega
    have hRl2 : R2.length ≤ 21 := by rw [← hR2, List.length_append, List.length_singleton]; omega
    have HFM : Hid (Fmt b V R3) := hid ⟨n, ds, x, hn1, hn2, HDG.out, HPZ.out, HALL.out, by
     rw [HMN.out, ← hR3, ← hR2, ← hR1, ← hS, ← hS1, ← hC, ← hA, ← hB, ← hF2]
     unfold txt
     by_cases h : 1 < n
     ·rw [if_pos h, if_pos h]; simp
     ·rw [if_neg h, if_neg h]
      have : ds.take 1 = ds := List.take_of_length_le (by omega)
      rw [this]; simp⟩
    have HC := hid hC
    have HS1 := hid hS1
    have HR1 := hid hR1
    have HR2 := hid hR2
    have HR3 := hid hR3
    have HSS := hid hS
    clear hA hB hF2 hC hS1 hS hR1 hR2 hR3 HALL HPZ HDG
    go_wp2_with fail
    (refine x_c H (rvalue_any _ false ds (x - (n : Int) + 1) 0 HDD.out HNE.out (by omega) (by omega) (HT.out.fr H.fr) HVV) ?_; clear H; rintro e w1 ⟨rfl, hF⟩ H; replace hF := hF.kp)
    go_wp2_with fail
    (refine x_c H (rabs_anyF _ hb HK (by decide) hz) ?_; clear H; rintro e w1 ⟨rfl, hF⟩ H; replace hF := hF.kp)
    by_cases hn0 : 1 < n
    ·obtain rfl : S1 = S := by have := HSS.out; rwa [if_pos hn0] at this
     go_wp2_with (refine x_q H ?_)
     (revert H; refine w_pF 7 (.st 0 (.st 1 (.st 2 (.st 3 (.st 4 (.st 5 (.st 6 .done))))))) ?_; intro w1 hf H; (first | replace hf := hf.kp | clear hf))
     refine p_q ?_
     (refine p_e rfl (fun w H => ev_strHead rfl rfl rfl HA) ?_)
     (refine p_e rfl (fun w H => ev_strCat (r := [46]) rfl rfl rfl HC (by simp only [List.length_singleton]; omega)) ?_)
     refine p_q ?_
     (refine p_e rfl (fun w H => ev_strTail rfl rfl rfl HB) ?_)
     (refine p_e rfl (fun w H => ev_strCat rfl rfl rfl HS1 (by omega)) ?_)
     refine p_q ?_
     (refine pl_done ?_)
     all_goals
      go_wp2_with (first | refine x_e (ev_strCat rfl rfl rfl HR1 (by omega)) ?_ | refine x_e (ev_strCat (r := [101]) rfl rfl rfl HR2 (by simp only [List.length_singleton]; omega)) ?_)
      (refine x_c H (itoaZ_any x (by omega) _ (HT.out.fr H.fr) HF) ?_; clear H; rintro e w1 ⟨rfl, hF⟩ H; replace hF := hF.kp)
      go_wp2_with (refine x_e (ev_strCat rfl rfl rfl HR3 (by omega)) ?_)
      go_ret
      exact ⟨_, rfl, H.fr, HFM.out⟩
    ·obtain rfl : ds = S := by have := HSS.out; rwa [if_neg hn0] at this
     go_wp2_with (first | refine x_q H ?_ | refine x_e (ev_strCat rfl rfl rfl HR1 (by omega)) ?_ | refine x_e (ev_strCat (r := [101]) rfl rfl rfl HR2 (by simp only [List.length_singleton]; omega)) ?_)
     (refine x_c H (itoaZ_any x (by omega) _ (HT.out.fr H.fr) HF) ?_; clear H; rintro e w1 ⟨rfl, hF⟩ H; replace hF := hF.kp)
     go_wp2_with (refine x_e (ev_strCat rfl rfl rfl HR3 (by omega)) ?_)
     go_ret
     exact ⟨_, rfl, H.fr, HFM.out⟩
   ·have hn17 := hVn hVz
    have HALL2 : Hid (∀ m es y, 1 ≤ m → m < n + 1 → Dgs z m es y → dpz 1024 (txt m es y) 0 ≠ (z, 0)) := hid (fun m es y h1 h2 h3 => by
     rcases Nat.lt_or_ge m n with h | h
     ·exact HALL.out m es y h1 h h3
     ·obtain rfl : m = n := by omega
      obtain ⟨rfl, rfl⟩ := h3.one HDG.out
      rw [HPZ.out]
      intro h4
      injection h4 with h5
      exact hVz h5)
    clear HALL HPZ HDG
    go_wp2_with fail
    (refine x_c H (rvalue_any _ false ds (x - (n : Int) + 1) 0 HDD.out HNE.out (by omega) (by omega) (HT.out.fr H.fr) HVV) ?_; clear H; rintro e w1 ⟨rfl, hF⟩ H; replace hF := hF.kp)
    go_wp2_with fail
    (refine x_c H (rabs_anyF _ hb HK (by decide) hz) ?_; clear H; rintro e w1 ⟨rfl, hF⟩ H; replace hF := hF.kp)
    go_wp2_with (refine x_q H ?_)
    go_roundw
    case rel => exact ⟨n + 1, by first | rfl | go_num, by omega, by omega, HALL2, H⟩
    case measure => (simp [intOf]; try omega)
end Go.Proofs.YthbeeeclgbpopaaGreatDoor
