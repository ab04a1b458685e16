/-
  The walk of DecimalShortest.
-/
import Derived.Test.YthbeeeclgbpopaaGreatDoorFa8
import Derived.Test.YthbeeeclgbpopaaGreatDoorRa1
namespace Go.Proofs.YthbeeeclgbpopaaGreatDoor
open Go.RowKit
set_option linter.unusedSimpArgs false
set_option linter.unusedVariables false
set_option maxHeartbeats 8000000
set_option maxRecDepth 100000

theorem wf_range {a : Int} (h : (Lit.int .i64 a).wf = true) : -9223372036854775808 ≤ a ∧ a ≤ 9223372036854775807 := by simp [Lit.wf, IntKind.min, IntKind.max, IntKind.bits, IntKind.signed] at h; omega
theorem wf_word {a : Int} (h : (Lit.int .u64 a).wf = true) : ∃ b : Nat, a = (b : Int) ∧ b < 18446744073709551616 := by
  simp [Lit.wf, IntKind.min, IntKind.max, IntKind.bits, IntKind.signed] at h
  exact ⟨a.toNat, by omega, by omega⟩
theorem placeM (w : World) (a : Int) (m : Nat) (hm : 0 < m) (hm2 : m < 1000000) (ha : -9223372036854775808 ≤ a ∧ a ≤ 9223372036854775807) {z : Int} (hz : z = (m : Int)) :
    Calls Tryz.prog 18 #[.int .i64 a, .int .i64 z] w fun e w' => ∃ k : Nat, e = .returned (.int .i64 (k : Int)) ∧ k < m ∧ Fr [] w w' := by
  subst hz
  have H := Hp.start [] w
  have hb : 0 ≤ a % 18446744073709551616 % (m : Int) ∧ a % 18446744073709551616 % (m : Int) < m := ⟨Int.emod_nonneg _ (by omega), Int.emod_lt_of_pos _ (by omega)⟩
  have hmm : (m : Int) % 18446744073709551616 = m := by omega
  go_enter Tryz.func18, Tryz.ntmps18
  go_wp2_with (first | refine x_q H ?_ | refine x_cm (fun h => ?_) (fun h => ?_) | (revert H; (first | (refine x_g ?_; intro g w1 hg hf H) | (refine x_s ?_; intro w1 hf H)); (first | replace hf := hf.kp | clear hf)))
  go_ret
  refine ⟨(a % 18446744073709551616 % (m : Int)).toNat, ?_, by omega, H.fr⟩
  rw [Int.toNat_of_nonneg hb.1]
  rfl
theorem fin_of {b : Nat} (hb : b < 18446744073709551616) (hk : kindF b = 1) : 0 < b % 9223372036854775808 ∧ b % 9223372036854775808 < 9218868437227405312 ∧ kindF (b % 9223372036854775808) = 1 := by
  have e : b % 9223372036854775808 / 4503599627370496 % 2048 = b / 4503599627370496 % 2048 := by omega
  have e2 : b % 9223372036854775808 % 4503599627370496 = b % 4503599627370496 := by omega
  have hk2 : kindF (b % 9223372036854775808) = 1 := by unfold kindF at hk ⊢; rw [e, e2]; exact hk
  refine ⟨?_, ?_, hk2⟩
  · apply Nat.pos_of_ne_zero
    intro h
    rw [h] at hk2
    exact absurd hk2 (by decide +kernel)
  · unfold kindF at hk
    split at hk
    · split at hk <;> exact absurd hk (by decide)
    · omega
/-- What is counted of a text at its place i. -/
def cnt (i : Nat) : Nat := if i ≤ 1 then i else i - 1
theorem dig_ne {c : UInt8} (h : dig c = true) : (c.toNat : Int) ≠ 101 ∧ (c.toNat : Int) ≠ 46 := by
  unfold dig at h
  simp at h
  omega
/-- The letters of a written number. -/
theorem txt_at {n : Nat} {ds : List UInt8} {x : Int} (hl : ds.length = n) (hn : 1 ≤ n) (hd : ds.all dig = true) :
    ∃ p, p < (txt n ds x).length ∧ cnt p = n ∧ (txt n ds x)[p]? = some 101 ∧ ∀ i, i < p → ∃ c, (txt n ds x)[i]? = some c ∧ (c.toNat : Int) ≠ 101 ∧ ((c.toNat : Int) = 46 ↔ i = 1) := by
  obtain ⟨a, r, rfl⟩ : ∃ a r, ds = a :: r := by
    cases ds with
    | nil => simp at hl; omega
    | cons a r => exact ⟨a, r, rfl⟩
  rw [List.all_cons, Bool.and_eq_true] at hd
  have hda := dig_ne hd.1
  rw [List.length_cons] at hl
  by_cases h1 : 1 < n
  · have e : txt n (a :: r) x = a :: 46 :: (r ++ 101 :: fmt x) := by unfold txt; rw [if_pos h1]; simp
    rw [e]
    refine ⟨r.length + 2, by rw [List.length_cons, List.length_cons, List.length_append, List.length_cons]; omega, by unfold cnt; rw [if_neg (by omega)]; omega, ?_, fun i hi => ?_⟩
    · simp
    · match i, hi with
      | 0, _ => exact ⟨a, rfl, hda.1, by constructor <;> intro h <;> omega⟩
      | 1, _ => exact ⟨46, rfl, by decide, by decide⟩
      | i + 2, hi =>
        have hr : i < r.length := by omega
        refine ⟨r[i], ?_, ?_⟩
        · simp [List.getElem?_append_left hr, List.getElem?_eq_getElem hr]
        · have := hd.2
          rw [List.all_eq_true] at this
          have h2 := dig_ne (this _ (List.getElem_mem hr))
          exact ⟨h2.1, by constructor <;> intro h <;> omega⟩
  · have hr : r = [] := by
      apply List.eq_nil_of_length_eq_zero; omega
    subst hr
    have e : txt n [a] x = a :: 101 :: fmt x := by unfold txt; rw [if_neg h1]; rfl
    rw [e]
    refine ⟨1, by rw [List.length_cons, List.length_cons]; omega, by unfold cnt; rw [if_pos (by omega)]; rw [List.length_nil] at hl; omega, rfl, fun i hi => ?_⟩
    obtain rfl : i = 0 := by omega
    exact ⟨a, rfl, hda.1, by constructor <;> intro h <;> omega⟩
/-- Digits with an exponent, read. -/
theorem dig_pz {b n : Nat} {ds : List UInt8} {x : Int} (h : Dgs b n ds x) (h0 : 0 < b) (hb : b < 9218868437227405312) (hn : 1 ≤ n) (hn2 : n ≤ 17) :
    dpz 1024 (ds ++ 101 :: fmt (x - n + 1)) 0 = dpz 1024 (txt n ds x) 0 := by
  rw [txt_pz h h0 hb hn (by omega)]
  obtain ⟨k, h1, h2, hl, hd, hq, hx, _⟩ := h.val h0 hn
  obtain ⟨k1, k2⟩ := k_bounds h0 hb h1 h2
  have hf := fmt_short (x := x - n + 1) (by omega)
  have hr := dread_plain (t := fmt (x - n + 1)) (c := 101) hd (by intro e; rw [e] at hl; simp at hl; omega) (by decide) (dexp_fmt (x - n + 1))
  rw [dpz_of 0 (by rw [List.length_append, List.length_cons]; omega) hr (by omega)]
  have e : x - (n : Int) + 1 - ((0 : Nat) : Int) = x - (n - 1) := by omega
  rw [e]
theorem digitsZ_any (w : World) {b z : Nat} {n : Nat} {y : Int} (hy : y = (n : Int)) (hb : b < 18446744073709551616) (hk : kindF b = 1) (hz : Hid (b % 9223372036854775808 = z)) (h0 : 0 < z) (hz1 : z < 9218868437227405312) (hn1 : 1 ≤ n) (hn2 : n ≤ 800) (hT : La w) :
    Calls Tryz.prog 19 #[.int .u64 (b : Int), .int .i64 y] w fun r w' => ∃ ds x, r = .returned (.tuple #[strV ds, .int .i64 x, .int .i64 0]) ∧ Fr [] w w' ∧ Dgs z n ds x := by
  subst hy
  exact digits_any w hb hk hz h0 hz1 hn1 hn2 hT
set_option maxHeartbeats 16000000 in
theorem decimalShortest_walk (W : World) (hL : laidMetH Tryz.prog laid7 W) (a0 : Int) (w0 : (Lit.int .u64 a0).wf = true) (a1 : Int) (w1 : (Lit.int .i64 a1).wf = true) :
    Calls Tryz.prog 4 #[.int .u64 a0, .int .i64 a1] W fun e w' => e = .returned (.bool true) ∧ Fr [] W w' := by
  obtain ⟨b, rfl, hb⟩ := wf_word w0
  have ha := wf_range w1
  have HT := hid (la_of hL)
  clear w0 w1 hL
  have H := Hp.start [] W
  have hkr := kindF_range b
  obtain ⟨k, hk⟩ : ∃ k, kindF b = k := ⟨_, rfl⟩
  have HK := hid hk
  rw [hk] at hkr
  by_cases h1 : k = 1
  · subst h1
    obtain ⟨z0, z1, z2⟩ := fin_of hb hk
    obtain ⟨z, hz⟩ : ∃ z, b % 9223372036854775808 = z := ⟨_, rfl⟩
    rw [hz] at z0 z1 z2
    have HZ := hid hz
    have HK2 := hid z2
    have HZZ : Hid (z % 9223372036854775808 = z) := hid (Nat.mod_eq_of_lt (by omega))
    have hzb : z < 18446744073709551616 := by omega
    clear hk hz z2
    go_enter Tryz.func4, Tryz.ntmps4
    go_wp2_with (first | refine x_q H ?_ | refine x_cm (fun h => ?_) (fun h => ?_) | (revert H; (first | (refine x_g ?_; intro g w1 hg hf H) | (refine x_s ?_; intro w1 hf H)); (first | replace hf := hf.kp | clear hf)))
    (refine x_c H (rkind_any _ hb HK) ?_; clear H; rintro e w1 ⟨rfl, hF⟩ H; replace hF := hF.kp; skip)
    go_wp2_with (first | refine x_q H ?_ | refine x_cm (fun h => ?_) (fun h => ?_) | (revert H; (first | (refine x_g ?_; intro g w1 hg hf H) | (refine x_s ?_; intro w1 hf H)); (first | replace hf := hf.kp | clear hf)))
    (refine x_c H (rabs_anyF _ hb HK (by decide) HZ) ?_; clear H; rintro e w1 ⟨rfl, hF⟩ H; replace hF := hF.kp; skip)
    go_wp2_with (first | refine x_q H ?_ | refine x_cm (fun h => ?_) (fun h => ?_) | (revert H; (first | (refine x_g ?_; intro g w1 hg hf H) | (refine x_s ?_; intro w1 hf H)); (first | replace hf := hf.kp | clear hf)))
    (refine x_c H (format_any1 _ hzb HK2.out HZZ z0 z1 (HT.out.fr H.fr)) ?_; clear H; rintro e w1 ⟨l, rfl, hF, hfm⟩ H; replace hF := hF.kp; skip)
    obtain ⟨n, ds, x, hn1, hn2, hdg, hpz, hall, hlt⟩ := hfm
    have hmn : mns z = [] := if_neg (by omega)
    rw [hmn, List.nil_append] at hlt
    obtain ⟨kk, _, _, hdl, hdd, _⟩ := hdg.val z0 hn1
    obtain ⟨p, hp, hcp, hpe, hpi⟩ := txt_at (x := x) hdl hn1 hdd
    rw [← hlt] at hp hpe hpi
    have hp18 : p ≤ 18 := by unfold cnt at hcp; split at hcp <;> omega
    have HPE := hid hpe
    have HPI := hid hpi
    have HALL := hid hall
    have HCP := hid hcp
    clear hdg hpz hlt hdl hdd hpe hpi hall hmn hcp
    go_wp2_with (first | refine x_q H ?_ | refine x_cm (fun h => ?_) (fun h => ?_) | (revert H; (first | (refine x_g ?_; intro g w1 hg hf H) | (refine x_s ?_; intro w1 hf H)); (first | replace hf := hf.kp | clear hf)))
    go_loopw [6, 7] (fun s6 s7 wr => ∃ i : Nat, i ≤ p ∧ s6 = .int .i64 (cnt i : Nat) ∧ s7 = .int .i64 (i : Int) ∧ Hp [] W wr []) (fun _ v _ => (p - intOf v).toNat)
    case atStart => exact ⟨0, by omega, rfl, rfl, H⟩
    case round =>
      clear H
      obtain ⟨i, hi, rfl, rfl, H⟩ := hrel
      by_cases hip : i < p
      · obtain ⟨c, hc, hc1, hc2⟩ := HPI.out i hip
        have HCI : l[(i : Int).toNat]? = some c := hc
        have hcn : cnt (i + 1) = if i = 1 then cnt i else cnt i + 1 := by unfold cnt; (repeat' split) <;> omega
        have hcb : cnt i ≤ i := by unfold cnt; split <;> omega
        clear hc
        obtain ⟨y, hy⟩ : ∃ y, cnt i = y := ⟨_, rfl⟩
        rw [hy] at hcn hcb ⊢
        by_cases h1 : i = 1
        · have hc3 := hc2.2 h1
          have HCN := hid (hcn.trans (if_pos h1))
          clear hcn hc2 h1 hy
          go_wp2_with (first | refine x_e (ev_strIdx rfl rfl rfl (by omega) HCI) ?_ | refine x_q H ?_ | refine x_cm (fun h => ?_) (fun h => ?_) | refine x_e (ev_strLen rfl rfl) ?_)
          go_roundw
          case rel => exact ⟨i + 1, by omega, by rw [HCN.out], by first | rfl | go_num, H⟩
          case measure => (simp [intOf]; try omega)
        · have hc3 : (c.toNat : Int) ≠ 46 := fun h => h1 (hc2.1 h)
          have HCN := hid (hcn.trans (if_neg h1))
          clear hcn hc2 h1 hy
          go_wp2_with (first | refine x_e (ev_strIdx rfl rfl rfl (by omega) HCI) ?_ | refine x_q H ?_ | refine x_cm (fun h => ?_) (fun h => ?_) | refine x_e (ev_strLen rfl rfl) ?_)
          go_roundw
          case rel => exact ⟨i + 1, by omega, by rw [HCN.out]; first | rfl | go_num, by first | rfl | go_num, H⟩
          case measure => (simp [intOf]; try omega)
      · obtain rfl : i = p := by omega
        have HCI : l[(i : Int).toNat]? = some 101 := HPE.out
        have h101 : (((101 : UInt8).toNat : Nat) : Int) = 101 := rfl
        rw [HCP.out]
        by_cases h1 : 1 < n
        · go_wp2_with (first | refine x_e (ev_strIdx rfl rfl rfl (by omega) HCI) ?_ | refine x_q H ?_ | refine x_cm (fun h => ?_) (fun h => ?_) | refine x_e (ev_strLen rfl rfl) ?_)
          (refine x_c H (placeM _ a1 (n - 1) (by omega) (by omega) ha (by omega)) ?_; clear H; rintro e w1 ⟨k2, rfl, hk2, hF⟩ H; replace hF := hF.kp; skip)
          go_wp2_with (first | refine x_q H ?_ | refine x_cm (fun h => ?_) (fun h => ?_) | (revert H; (first | (refine x_g ?_; intro g w1 hg hf H) | (refine x_s ?_; intro w1 hf H)); (first | replace hf := hf.kp | clear hf)))
          (refine x_c H (digitsZ_any _ (n := k2 + 1) (by omega) hzb HK2.out HZZ z0 z1 (by omega) (by omega) (HT.out.fr H.fr)) ?_; clear H; rintro e w1 ⟨ds2, x2, rfl, hF, hdg2⟩ H; replace hF := hF.kp; skip)
          obtain ⟨k3, b1, b2, hl2, hd2, _, hx2, _⟩ := hdg2.val z0 (by omega)
          have hkb := k_bounds z0 z1 b1 b2
          have hpz2 := (dig_pz hdg2 z0 z1 (by omega) (by omega)).trans (txt_pz hdg2 z0 z1 (by omega) (by omega) 0)
          have hne2 := HALL.out _ _ _ (by omega) (by omega) hdg2
          rw [txt_pz hdg2 z0 z1 (by omega) (by omega) 0] at hne2
          obtain ⟨V, hV⟩ : ∃ V, dval false 0 (num ds2) (x2 - (((k2 + 1 : Nat) : Int) - 1)) = V := ⟨_, rfl⟩
          rw [hV] at hne2 hpz2
          have hVz : V ≠ z := fun h => hne2 (by rw [h])
          rw [show x2 - ((k2 + 1 : Nat) : Int) + 1 = x2 - (1 + (k2 : Int)) + 1 by omega] at hpz2
          obtain ⟨F, hF2⟩ : ∃ F, fmt (x2 - (1 + (k2 : Int)) + 1) = F := ⟨_, rfl⟩
          have hfl := fmt_short (x := x2 - (1 + (k2 : Int)) + 1) (by omega)
          rw [hF2] at hpz2 hfl
          obtain ⟨Q1, hQ1⟩ : ∃ q, ds2 ++ [101] = q := ⟨_, rfl⟩
          obtain ⟨Q2, hQ2⟩ : ∃ q, Q1 ++ F = q := ⟨_, rfl⟩
          have e12 : ds2 ++ 101 :: F = Q2 := by rw [← hQ2, ← hQ1, List.append_assoc]; rfl
          rw [e12] at hpz2
          have hq1 : Q1.length ≤ 30 := by rw [← hQ1, List.length_append, List.length_singleton]; omega
          have hla : ds2.length ≤ k2 + 1 := by omega
          have hlb : k2 + 1 ≤ ds2.length := by omega
          have HQ1 := hid hQ1
          have HQ2 := hid hQ2
          have HFF := hid hF2
          have HPZ := hid hpz2
          have hxr : -400 ≤ x2 ∧ x2 ≤ 400 := by omega
          clear hdg2 hl2 hd2 hx2 hkb hne2 hV hpz2 hF2 hQ1 hQ2 e12 b1 b2
          go_wp2_with (first | refine x_e (ev_strCat (r := [101]) rfl rfl rfl HQ1 (by simp only [List.length_singleton]; omega)) ?_ | refine x_q H ?_ | refine x_cm (fun h => ?_) (fun h => ?_))
          (refine x_c H (itoaZ_any _ (by omega) _ (HT.out.fr H.fr) HFF) ?_; clear H; rintro e w1 ⟨rfl, hF⟩ H; replace hF := hF.kp; skip)
          go_wp2_with (first | refine x_e (ev_strCat rfl rfl rfl HQ2 (by omega)) ?_ | refine x_q H ?_ | refine x_cm (fun h => ?_) (fun h => ?_))
          (refine x_c H (parseP_any _ Q2 0 (HT.out.fr H.fr) HPZ) ?_; clear H; rintro e w1 ⟨rfl, hF⟩ H; replace hF := hF.kp; skip)
          go_wp2_with (first | refine x_q H ?_ | refine x_cm (fun h => ?_) (fun h => ?_) | refine x_e (ev_strLen rfl rfl) ?_)
          (refine x_c H (awakeD_any _ (HT.out.fr H.fr)) ?_; clear H; rintro e w1 ⟨rfl, hF⟩ H; replace hF := hF.kp; skip)
          go_wp2_with (first | refine x_q H ?_ | refine x_cm (fun h => ?_) (fun h => ?_) | (revert H; (first | (refine x_g ?_; intro g w1 hg hf H) | (refine x_s ?_; intro w1 hf H)); (first | replace hf := hf.kp | clear hf)))
          go_ret
          exact ⟨rfl, H.fr⟩
        · go_wp2_with (first | refine x_e (ev_strIdx rfl rfl rfl (by omega) HCI) ?_ | refine x_q H ?_ | refine x_cm (fun h => ?_) (fun h => ?_) | refine x_e (ev_strLen rfl rfl) ?_)
          (refine x_c H (awakeD_any _ (HT.out.fr H.fr)) ?_; clear H; rintro e w1 ⟨rfl, hF⟩ H; replace hF := hF.kp; skip)
          go_wp2_with (first | refine x_q H ?_ | refine x_cm (fun h => ?_) (fun h => ?_) | (revert H; (first | (refine x_g ?_; intro g w1 hg hf H) | (refine x_s ?_; intro w1 hf H)); (first | replace hf := hf.kp | clear hf)))
          go_ret
          exact ⟨rfl, H.fr⟩
  · go_enter Tryz.func4, Tryz.ntmps4
    go_wp2_with (first | refine x_q H ?_ | refine x_cm (fun h => ?_) (fun h => ?_) | (revert H; (first | (refine x_g ?_; intro g w1 hg hf H) | (refine x_s ?_; intro w1 hf H)); (first | replace hf := hf.kp | clear hf)))
    (refine x_c H (rkind_any _ hb HK) ?_; clear H; rintro e w1 ⟨rfl, hF⟩ H; replace hF := hF.kp; skip)
    go_wp2_with (first | refine x_q H ?_ | refine x_cm (fun h => ?_) (fun h => ?_) | (revert H; (first | (refine x_g ?_; intro g w1 hg hf H) | (refine x_s ?_; intro w1 hf H)); (first | replace hf := hf.kp | clear hf)))
    (refine x_c H (awakeD_any _ (HT.out.fr H.fr)) ?_; clear H; rintro e w1 ⟨rfl, hF⟩ H; replace hF := hF.kp; skip)
    go_wp2_with (first | refine x_q H ?_ | refine x_cm (fun h => ?_) (fun h => ?_) | (revert H; (first | (refine x_g ?_; intro g w1 hg hf H) | (refine x_s ?_; intro w1 hf H)); (first | replace hf := hf.kp | clear hf)))
    go_ret
    exact ⟨rfl, H.fr⟩
end Go.Proofs.YthbeeeclgbpopaaGreatDoor
