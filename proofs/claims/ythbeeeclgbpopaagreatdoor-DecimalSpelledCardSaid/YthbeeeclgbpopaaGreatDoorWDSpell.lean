/-
  The walk of DecimalSpelled.
-/
import Derived.Test.YthbeeeclgbpopaaGreatDoorXb1
namespace Go.Proofs.YthbeeeclgbpopaaGreatDoor
open Go.RowKit
set_option linter.unusedSimpArgs false
set_option linter.unusedVariables false
set_option maxHeartbeats 8000000
set_option maxRecDepth 100000

theorem wf_range {a : Int} (h : (Lit.int .i64 a).wf = true) : -9223372036854775808 ≤ a ∧ a ≤ 9223372036854775807 := by simp [Lit.wf, IntKind.min, IntKind.max, IntKind.bits, IntKind.signed] at h; omega
theorem place600 (w : World) (a : Int) (ha : -9223372036854775808 ≤ a ∧ a ≤ 9223372036854775807) :
    Calls Tryz.prog 18 #[.int .i64 a, .int .i64 600] w fun e w' => ∃ k : Nat, e = .returned (.int .i64 (k : Int)) ∧ k < 600 ∧ Fr [] w w' := by
  have H := Hp.start [] w
  go_enter Tryz.func18, Tryz.ntmps18
  go_wp2_with (first | refine x_q H ?_ | refine x_cm (fun h => ?_) (fun h => ?_) | (revert H; (first | (refine x_g ?_; intro g w1 hg hf H) | (refine x_s ?_; intro w1 hf H)); (first | replace hf := hf.kp | clear hf)))
  go_ret
  exact ⟨(a % 18446744073709551616 % 600).toNat, by rw [Int.toNat_of_nonneg (by omega)]; rfl, by omega, H.fr⟩
theorem place4 (w : World) (a : Int) (ha : -9223372036854775808 ≤ a ∧ a ≤ 9223372036854775807) :
    Calls Tryz.prog 18 #[.int .i64 a, .int .i64 4] w fun e w' => ∃ k : Nat, e = .returned (.int .i64 (k : Int)) ∧ k < 4 ∧ Fr [] w w' := by
  have H := Hp.start [] w
  go_enter Tryz.func18, Tryz.ntmps18
  go_wp2_with (first | refine x_q H ?_ | refine x_cm (fun h => ?_) (fun h => ?_) | (revert H; (first | (refine x_g ?_; intro g w1 hg hf H) | (refine x_s ?_; intro w1 hf H)); (first | replace hf := hf.kp | clear hf)))
  go_ret
  exact ⟨(a % 18446744073709551616 % 4).toNat, by rw [Int.toNat_of_nonneg (by omega)]; rfl, by omega, H.fr⟩
theorem placeM (w : World) (a : Int) (m : Nat) (hm : 0 < m) (hm2 : m < 1000000) (ha : -9223372036854775808 ≤ a ∧ a ≤ 9223372036854775807) {z : Int} (hz : z = (m : Int)) :
    Calls Tryz.prog 18 #[.int .i64 a, .int .i64 z] w fun e w' => ∃ k : Nat, e = .returned (.int .i64 (k : Int)) ∧ k < m ∧ Fr [] w w' := by
  subst hz
  have H := Hp.start [] w
  have hb : 0 ≤ a % 18446744073709551616 % (m : Int) ∧ a % 18446744073709551616 % (m : Int) < m := ⟨Int.emod_nonneg _ (by omega), Int.emod_lt_of_pos _ (by omega)⟩
  have hmm : (m : Int) % 18446744073709551616 = m := by omega
  go_enter Tryz.func18, Tryz.ntmps18
  go_wp2_with (first | refine x_q H ?_ | refine x_cm (fun h => ?_) (fun h => ?_) | (revert H; (first | (refine x_g ?_; intro g w1 hg hf H) | (refine x_s ?_; intro w1 hf H)); (first | replace hf := hf.kp | clear hf)))
  go_ret
  refine ⟨(a % 18446744073709551616 % (m : Int)).toNat, ?_, by omega, H.fr⟩
  rw [Int.toNat_of_nonneg hb.1]
  rfl
theorem ev_o63I {P : Program} {w : World} {a : Act} {o : Oper} {t t' : TypeId} {x : Operand} (ho : o.op = .binOp .or t x (.const (.int .u64 9223372036854775808)) t') {m z : Nat} (hx : a.eval x = .int .u64 (m : Int)) (hz : Hid (m + 9223372036854775808 = z)) (hm : m < 9223372036854775808 := by omega) : (execOp a.eval o).run P w = .ok (.value (.int .u64 (z : Int))) w := by
  rw [← hz.out]; exact ev_o63 ho hx hm
theorem letter {k : Nat} (h : k < 4) : ∃ c, ([101, 69, 100, 68] : List UInt8).drop k ≠ [] ∧ (([101, 69, 100, 68] : List UInt8).drop k).take 1 = [c] ∧ isE c = true := by
  match k, h with
  | 0, _ => exact ⟨101, by decide, rfl, rfl⟩
  | 1, _ => exact ⟨69, by decide, rfl, rfl⟩
  | 2, _ => exact ⟨100, by decide, rfl, rfl⟩
  | 3, _ => exact ⟨68, by decide, rfl, rfl⟩
theorem dval_small (mode : Int) (N : Nat) (x : Int) : dval false mode N x < 9223372036854775808 := by
  unfold dval
  by_cases h : N = 0
  · rw [if_pos h]; decide
  · rw [if_neg h]
    unfold dvF
    rw [rndF_lin false mode (Nat.mul_pos (Nat.pos_of_ne_zero h) (ten_pos _)) (ten_pos _) rfl]
    split
    · unfold overF sgnF
      simp only [Bool.false_eq_true, if_false]
      split <;> decide
    · unfold sgnF
      simp only [Bool.false_eq_true, if_false]
      omega
theorem mirror_any (w : World) (m : Int) {z : Int} (hz : Hid (mir m = z)) :
    Calls Tryz.prog 22 #[.int .i64 m] w fun e w' => e = .returned (.int .i64 z) ∧ Fr [] w w' := by
  rw [← hz.out]
  have H := Hp.start [] w
  by_cases h1 : m = 1
  · subst h1
    go_enter Tryz.func22, Tryz.ntmps22
    go_wp2_with (first | refine x_q H ?_ | refine x_cm (fun h => ?_) (fun h => ?_) | (revert H; (first | (refine x_g ?_; intro g w1 hg hf H) | (refine x_s ?_; intro w1 hf H)); (first | replace hf := hf.kp | clear hf)))
    go_ret
    exact ⟨rfl, H.fr⟩
  · by_cases h2 : m = 2
    · subst h2
      go_enter Tryz.func22, Tryz.ntmps22
      go_wp2_with (first | refine x_q H ?_ | refine x_cm (fun h => ?_) (fun h => ?_) | (revert H; (first | (refine x_g ?_; intro g w1 hg hf H) | (refine x_s ?_; intro w1 hf H)); (first | replace hf := hf.kp | clear hf)))
      go_ret
      exact ⟨rfl, H.fr⟩
    · have HV : Hid (mir m = m) := hid (by unfold mir; rw [if_neg h1, if_neg h2])
      go_enter Tryz.func22, Tryz.ntmps22
      go_wp2_with (first | refine x_q H ?_ | refine x_cm (fun h => ?_) (fun h => ?_) | (revert H; (first | (refine x_g ?_; intro g w1 hg hf H) | (refine x_s ?_; intro w1 hf H)); (first | replace hf := hf.kp | clear hf)))
      go_ret
      exact ⟨by rw [HV.out]; rfl, H.fr⟩
set_option maxHeartbeats 16000000 in
theorem decimalSpelled_walk (W : World) (hL : laidMetH Tryz.prog laid7 W) (v0 : Value) (o0 : ∃ l : List Int, SArg W v0 l.length (l.map fun x => .int .i64 x) ∧ ∀ x ∈ l, -9223372036854775808 ≤ x ∧ x ≤ 9223372036854775807) (a1 : Int) (w1 : (Lit.int .i64 a1).wf = true) (a2 : Int) (w2 : (Lit.int .i64 a2).wf = true) (mode : Int) (w3 : (Lit.int .i64 mode).wf = true) (a4 : Int) (w4 : (Lit.int .i64 a4).wf = true) :
    Calls Tryz.prog 5 #[v0, .int .i64 a1, .int .i64 a2, .int .i64 mode, .int .i64 a4] W fun e w' => e = .returned (.bool true) ∧ Fr [] W w' := by
  obtain ⟨xs, ⟨p, c, rfl, _, hlc, hcm, hrd⟩, hr⟩ := o0
  have ha1 := wf_range w1
  have ha2 := wf_range w2
  have ha4 := wf_range w4
  have HT := hid (la_of hL)
  clear w1 w2 w3 w4 hL
  have H := Hp.start [] W
  by_cases h0 : xs.length = 0
  · rw [h0]
    go_enter Tryz.func5, Tryz.ntmps5
    go_wp2_with (first | refine x_q H ?_ | refine x_cm (fun h => ?_) (fun h => ?_) | (revert H; (first | (refine x_g ?_; intro g w1 hg hf H) | (refine x_s ?_; intro w1 hf H)); (first | replace hf := hf.kp | clear hf)))
    (refine x_c H (awakeD_any _ (HT.out.fr H.fr)) ?_; clear H; rintro e w1 ⟨rfl, hF⟩ H; replace hF := hF.kp; skip)
    go_wp2_with (first | refine x_q H ?_ | refine x_cm (fun h => ?_) (fun h => ?_) | (revert H; (first | (refine x_g ?_; intro g w1 hg hf H) | (refine x_s ?_; intro w1 hf H)); (first | replace hf := hf.kp | clear hf)))
    go_ret
    exact ⟨rfl, H.fr⟩
  · unfold maxLen at hcm
    by_cases h25 : 25 < xs.length
    · go_enter Tryz.func5, Tryz.ntmps5
      go_wp2_with (first | refine x_q H ?_ | refine x_cm (fun h => ?_) (fun h => ?_) | (revert H; (first | (refine x_g ?_; intro g w1 hg hf H) | (refine x_s ?_; intro w1 hf H)); (first | replace hf := hf.kp | clear hf)))
      (refine x_c H (awakeD_any _ (HT.out.fr H.fr)) ?_; clear H; rintro e w1 ⟨rfl, hF⟩ H; replace hF := hF.kp; skip)
      go_wp2_with (first | refine x_q H ?_ | refine x_cm (fun h => ?_) (fun h => ?_) | (revert H; (first | (refine x_g ?_; intro g w1 hg hf H) | (refine x_s ?_; intro w1 hf H)); (first | replace hf := hf.kp | clear hf)))
      go_ret
      exact ⟨rfl, H.fr⟩
    · obtain ⟨b, off, rfl, _, hcell⟩ := (hrd W (Fr.refl _ _)).rng (by intro e; have := congrArg List.length e; rw [List.length_map, List.length_nil] at this; omega)
      have HLI : Hid (LI W b off xs) := hid (fun i x hx => ⟨hcell i _ (by rw [List.getElem?_map, hx]; rfl), hr x (List.mem_of_getElem? hx)⟩)
      have hl1 : 1 ≤ xs.length := by omega
      clear hrd hr hcell h0
      have HLF : Hid (∀ w', Fr [] W w' → LI w' b off xs) := hid (fun w' hf i x hx => ⟨hf.cell (HLI.out i x hx).1 (by simp), (HLI.out i x hx).2⟩)
      go_enter Tryz.func5, Tryz.ntmps5
      go_wp2_with (first | refine x_q H ?_ | refine x_cm (fun h => ?_) (fun h => ?_) | (revert H; (first | (refine x_g ?_; intro g w1 hg hf H) | (refine x_s ?_; intro w1 hf H)); (first | replace hf := hf.kp | clear hf)))
      (refine x_c H (plain_any (by omega) (HLF.out _ H.fr)) ?_; clear H; rintro e w1 ⟨s, rfl, hF, hsl, hsd⟩ H; replace hF := hF.kp; skip)
      have hs0 : s ≠ [] := by intro e; rw [e] at hsl; simp at hsl; omega
      have hsl2 : s.length ≤ 25 := by omega
      have HSD := hid hsd
      have HS0 := hid hs0
      clear hsl hsd hs0
      go_wp2_with (first | refine x_q H ?_ | refine x_cm (fun h => ?_) (fun h => ?_) | refine x_e (ev_strLen rfl rfl) ?_ | (revert H; (first | (refine x_g ?_; intro g w1 hg hf H) | (refine x_s ?_; intro w1 hf H)); (first | replace hf := hf.kp | clear hf)))
      (refine x_c H (placeM _ a1 (s.length + 1) (by omega) (by omega) ha1 (by omega)) ?_; clear H; rintro e w1 ⟨k1, rfl, hk1, hF⟩ H; replace hF := hF.kp; skip)
      go_wp2_with (first | refine x_q H ?_ | refine x_cm (fun h => ?_) (fun h => ?_) | (revert H; (first | (refine x_g ?_; intro g w1 hg hf H) | (refine x_s ?_; intro w1 hf H)); (first | replace hf := hf.kp | clear hf)))
      (refine x_c H (place600 _ a2 ha2) ?_; clear H; rintro e w1 ⟨k2, rfl, hk2, hF⟩ H; replace hF := hF.kp; skip)
      go_wp2_with (first | refine x_q H ?_ | refine x_cm (fun h => ?_) (fun h => ?_) | (revert H; (first | (refine x_g ?_; intro g w1 hg hf H) | (refine x_s ?_; intro w1 hf H)); (first | replace hf := hf.kp | clear hf)))
      (refine x_c H (place4 _ a4 ha4) ?_; clear H; rintro e w1 ⟨k4, rfl, hk4, hF⟩ H; replace hF := hF.kp; skip)
      obtain ⟨lc, hn, ht, hE⟩ := letter hk4
      obtain ⟨L1, hL1⟩ : ∃ l, ([101, 69, 100, 68] : List UInt8).drop k4 = l := ⟨_, rfl⟩
      rw [hL1] at hn ht
      have hL1l : 1 ≤ L1.length := by
        cases L1 with
        | nil => exact absurd rfl hn
        | cons _ _ => simp
      have HL1 : Hid (([101, 69, 100, 68] : List UInt8).drop (k4 : Int).toNat = L1) := hid hL1
      have HT1 : Hid (L1.take (1 : Int).toNat = [lc]) := hid ht
      have h4 : ((4 : Nat) : Int) = (([101, 69, 100, 68] : List UInt8).length : Int) := rfl
      clear hn ht hL1
      obtain ⟨F, hF2⟩ : ∃ F, fmt ((k2 : Int) - 300) = F := ⟨_, rfl⟩
      have hfl := fmt_short (x := (k2 : Int) - 300) (by omega)
      obtain ⟨G, hG⟩ : ∃ F, fmt ((k2 : Int) - 300 + s.length - k1) = F := ⟨_, rfl⟩
      have hgl := fmt_short (x := (k2 : Int) - 300 + s.length - k1) (by omega)
      have hpa := spell_a (x := (k2 : Int) - 300) mode HSD.out HS0.out hE (by omega) (by omega)
      have hpc := spell_c (x := (k2 : Int) - 300) mode HSD.out HS0.out hE (by omega) (by omega)
      have hpb := spell_b (x := (k2 : Int) - 300) k1 mode HSD.out (by omega) hE (by omega) (by omega)
      rw [show (k2 : Int) - 300 + ((s.length - k1 : Nat) : Int) = (k2 : Int) - 300 + s.length - k1 by omega] at hpb
      have hvs := dval_small mode (num s) ((k2 : Int) - 300)
      rw [hG] at hgl hpb
      rw [hF2] at hfl hpa hpc
      obtain ⟨V, hV⟩ : ∃ V, dval false mode (num s) ((k2 : Int) - 300) = V := ⟨_, rfl⟩
      rw [hV] at hpa hpb hpc hvs
      obtain ⟨VC, hVC⟩ : ∃ V2, V + 9223372036854775808 = V2 := ⟨_, rfl⟩
      rw [hVC] at hpc
      obtain ⟨mm, hmm⟩ : ∃ m, mir mode = m := ⟨_, rfl⟩
      rw [hmm] at hpc
      obtain ⟨S1, hS1⟩ : ∃ q, s.take k1 = q := ⟨_, rfl⟩
      obtain ⟨S2, hS2⟩ : ∃ q, s.drop k1 = q := ⟨_, rfl⟩
      have hs1l : S1.length ≤ 25 := by rw [← hS1, List.length_take]; omega
      have hs2l : S2.length ≤ 25 := by rw [← hS2, List.length_drop]; omega
      rw [hS1, hS2] at hpb
      obtain ⟨A1, hA1⟩ : ∃ q, s ++ [lc] = q := ⟨_, rfl⟩
      obtain ⟨A2, hA2⟩ : ∃ q, A1 ++ F = q := ⟨_, rfl⟩
      obtain ⟨B1, hB1⟩ : ∃ q, [43, 48, 48] ++ S1 = q := ⟨_, rfl⟩
      obtain ⟨B2, hB2⟩ : ∃ q, B1 ++ [46] = q := ⟨_, rfl⟩
      obtain ⟨B3, hB3⟩ : ∃ q, B2 ++ S2 = q := ⟨_, rfl⟩
      obtain ⟨B4, hB4⟩ : ∃ q, B3 ++ [lc] = q := ⟨_, rfl⟩
      obtain ⟨B5, hB5⟩ : ∃ q, B4 ++ G = q := ⟨_, rfl⟩
      obtain ⟨C1, hC1⟩ : ∃ q, [45] ++ s = q := ⟨_, rfl⟩
      obtain ⟨C2, hC2⟩ : ∃ q, C1 ++ [lc] = q := ⟨_, rfl⟩
      obtain ⟨C3, hC3⟩ : ∃ q, C2 ++ F = q := ⟨_, rfl⟩
      have ea : s ++ lc :: F = A2 := by rw [← hA2, ← hA1]; simp
      have eb : 43 :: ((48 :: 48 :: S1) ++ 46 :: (S2 ++ lc :: G)) = B5 := by rw [← hB5, ← hB4, ← hB3, ← hB2, ← hB1]; simp
      have ec : 45 :: (s ++ lc :: F) = C3 := by rw [← hC3, ← hC2, ← hC1]; simp
      rw [ea] at hpa
      rw [eb] at hpb
      rw [ec] at hpc
      have la1 : A1.length ≤ 26 := by rw [← hA1, List.length_append, List.length_singleton]; omega
      have lb1 : B1.length ≤ 28 := by rw [← hB1, List.length_append]; simp only [List.length_cons, List.length_nil]; omega
      have lb2 : B2.length ≤ 29 := by rw [← hB2, List.length_append, List.length_singleton]; omega
      have lb3 : B3.length ≤ 54 := by rw [← hB3, List.length_append]; omega
      have lb4 : B4.length ≤ 55 := by rw [← hB4, List.length_append, List.length_singleton]; omega
      have lc1 : C1.length ≤ 26 := by rw [← hC1, List.length_append, List.length_singleton]; omega
      have lc2 : C2.length ≤ 27 := by rw [← hC2, List.length_append, List.length_singleton]; omega
      have HS1 : Hid (s.take (k1 : Int).toNat = S1) := hid hS1
      have HS2 : Hid (s.drop (k1 : Int).toNat = S2) := hid hS2
      have HA1 := hid hA1
      have HA2 := hid hA2
      have HB1 := hid hB1
      have HB2 := hid hB2
      have HB3 := hid hB3
      have HB4 := hid hB4
      have HB5 := hid hB5
      have HC1 := hid hC1
      have HC2 := hid hC2
      have HC3 := hid hC3
      have HFF := hid hF2
      have HGG := hid hG
      have HPA := hid hpa
      have HPB := hid hpb
      have HPC := hid hpc
      have HVC := hid hVC
      have HMM := hid hmm
      clear hF2 hG hpa hpb hpc hV hVC hmm hS1 hS2 hA1 hA2 hB1 hB2 hB3 hB4 hB5 hC1 hC2 hC3 ea eb ec HLF HLI
      have l1 : ([lc] : List UInt8).length = 1 := rfl
      have l2 : ([46] : List UInt8).length = 1 := rfl
      have l3 : ([43, 48, 48] : List UInt8).length = 3 := rfl
      have l4 : ([45] : List UInt8).length = 1 := rfl
      go_wp2_with (first | refine x_e (ev_strTail (s := [101, 69, 100, 68]) rfl rfl rfl HL1 (by omega) (by show (k4 : Int) ≤ 4; omega)) ?_ | refine x_e (ev_strHead rfl rfl rfl HT1) ?_ | refine x_e (ev_strCat (r := [lc]) rfl rfl rfl HA1 (by omega)) ?_ | refine x_q H ?_ | refine x_cm (fun h => ?_) (fun h => ?_))
      (refine x_c H (itoaZ_any _ (by omega) _ (HT.out.fr H.fr) HFF) ?_; clear H; rintro e w1 ⟨rfl, hF⟩ H; replace hF := hF.kp; skip)
      go_wp2_with (first | refine x_e (ev_strCat rfl rfl rfl HA2 (by omega)) ?_ | refine x_q H ?_ | refine x_cm (fun h => ?_) (fun h => ?_) | refine x_e (ev_strLen rfl rfl) ?_)
      (refine x_c H (parseP_any _ A2 mode (HT.out.fr H.fr) HPA) ?_; clear H; rintro e w1 ⟨rfl, hF⟩ H; replace hF := hF.kp; skip)
      go_wp2_with (first | refine x_q H ?_ | refine x_cm (fun h => ?_) (fun h => ?_) | (revert H; (first | (refine x_g ?_; intro g w1 hg hf H) | (refine x_s ?_; intro w1 hf H)); (first | replace hf := hf.kp | clear hf)))
      (revert H; refine w_pF 26 (.st 0 (.st 1 (.st 2 (.st 3 (.st 4 (.st 5 (.st 6 (.st 7 (.st 8 (.st 9 (.st 10 (.st 11 (.st 12 (.st 13 (.st 14 (.st 15 (.st 16 (.st 19 (.ld 17 (.st 18 (.ld 20 (.st 21 (.st 22 (.st 23 (.st 24 (.st 25 .done)))))))))))))))))))))))))) ?_; intro w1 hf H; (first | replace hf := hf.kp | clear hf))
      iterate 2 refine p_q ?_
      (refine p_e rfl (fun w H => ev_strHead rfl rfl rfl HS1) ?_)
      (refine p_e rfl (fun w H => ev_strCat (s := [43, 48, 48]) rfl rfl rfl HB1 (by omega)) ?_)
      (refine p_e rfl (fun w H => ev_strCat (r := [46]) rfl rfl rfl HB2 (by omega)) ?_)
      iterate 2 refine p_q ?_
      (refine p_e rfl (fun w H => ev_strTail rfl rfl rfl HS2) ?_)
      (refine p_e rfl (fun w H => ev_strCat rfl rfl rfl HB3 (by omega)) ?_)
      refine p_q ?_
      (refine p_e rfl (fun w H => ev_strCat (r := [lc]) rfl rfl rfl HB4 (by omega)) ?_)
      iterate 2 refine p_q ?_
      (refine p_e rfl (fun w H => ev_strLen rfl rfl) ?_)
      iterate 4 refine p_q ?_
      ((refine p_c H rfl rfl Tryz.func20 (itoaZ_any _ (by omega) _ (HT.out.fr H.fr) HGG) ?_; clear H; rintro e w1 ⟨rfl, hF⟩ H; refine p_r ?_; replace hF := hF.kp); skip)
      (refine p_e rfl (fun w H => ev_strCat rfl rfl rfl HB5 (by omega)) ?_)
      ((refine p_c H rfl rfl Tryz.func13 (parseP_any _ B5 mode (HT.out.fr H.fr) HPB) ?_; clear H; rintro e w1 ⟨rfl, hF⟩ H; refine p_r ?_; replace hF := hF.kp); skip)
      iterate 5 refine p_q ?_
      (refine pl_done ?_)
      all_goals
        go_wp2_with (first | refine x_e (ev_strCat (s := [45]) rfl rfl rfl HC1 (by omega)) ?_ | refine x_e (ev_strCat (r := [lc]) rfl rfl rfl HC2 (by omega)) ?_ | refine x_q H ?_ | refine x_cm (fun h => ?_) (fun h => ?_))
        (refine x_c H (itoaZ_any _ (by omega) _ (HT.out.fr H.fr) HFF) ?_; clear H; rintro e w1 ⟨rfl, hF⟩ H; replace hF := hF.kp; skip)
        go_wp2_with (first | refine x_e (ev_strCat rfl rfl rfl HC3 (by omega)) ?_ | refine x_q H ?_ | refine x_cm (fun h => ?_) (fun h => ?_) | refine x_e (ev_strLen rfl rfl) ?_)
        (refine x_c H (mirror_any _ mode HMM) ?_; clear H; rintro e w1 ⟨rfl, hF⟩ H; replace hF := hF.kp; skip)
        go_wp2_with (first | refine x_q H ?_ | refine x_cm (fun h => ?_) (fun h => ?_) | (revert H; (first | (refine x_g ?_; intro g w1 hg hf H) | (refine x_s ?_; intro w1 hf H)); (first | replace hf := hf.kp | clear hf)))
        (refine x_c H (parseP_any _ C3 mm (HT.out.fr H.fr) HPC) ?_; clear H; rintro e w1 ⟨rfl, hF⟩ H; replace hF := hF.kp; skip)
        go_wp2_with (first | refine x_q H ?_ | refine x_cm (fun h => ?_) (fun h => ?_) | refine x_e (ev_o63I rfl rfl HVC) ?_ | (revert H; (first | (refine x_g ?_; intro g w1 hg hf H) | (refine x_s ?_; intro w1 hf H)); (first | replace hf := hf.kp | clear hf)))
        (refine x_c H (awakeD_any _ (HT.out.fr H.fr)) ?_; clear H; rintro e w1 ⟨rfl, hF⟩ H; replace hF := hF.kp; skip)
        go_wp2_with (first | refine x_q H ?_ | refine x_cm (fun h => ?_) (fun h => ?_) | (revert H; (first | (refine x_g ?_; intro g w1 hg hf H) | (refine x_s ?_; intro w1 hf H)); (first | replace hf := hf.kp | clear hf)))
        go_ret
        exact ⟨rfl, H.fr⟩
end Go.Proofs.YthbeeeclgbpopaaGreatDoor
