/-
  The document's integers: Int on numbers.
-/
import Derived.Test.YthbeeeclgbpopaaGreatDoorXIz6
import Derived.Test.YthbeeeclgbpopaaGreatDoorXIw32
namespace Go.Proofs.YthbeeeclgbpopaaGreatDoor
open Go.RowKit
set_option linter.unusedSimpArgs false
set_option linter.unusedVariables false
set_option maxHeartbeats 8000000
set_option maxRecDepth 100000

theorem intV_in {z : Int} (h : -9223372036854775808 ≤ z ∧ z ≤ 9223372036854775807) : intV z = .tuple #[.int .i64 z, .bool true] := by rw [intV, if_pos h]
theorem intV_out {z : Int} (h : ¬ (-9223372036854775808 ≤ z ∧ z ≤ 9223372036854775807)) : intV z = .tuple #[.int .i64 0, .bool false] := by rw [intV, if_neg h]
theorem rint_ar {w : World} {v : Value} {x : Int} {n : Nat} (h : Av w v x n) (hn : n ≤ 200000) :
    Calls Tryz.prog 203 #[v] w fun e w' => e = .returned (intV x) ∧ Fr [] w w' := by
  obtain ⟨b1, p1, m1, c1, rfl⟩ := h.form
  have HA1 := hid h
  clear h
  have H := Hp.start [] w
  go_enter Tryz.func203, Tryz.ntmps203
  go_wp2_with (first | refine x_q H ?_ | (revert H; (first | (refine x_g ?_; intro g w1 hg hf H) | (refine x_s ?_; intro w1 hf H)); (first | replace hf := hf.kp | clear hf)))
  (refine x_c H (rnorm_ar (av HA1) (by omega)) ?_; clear H; rintro e w1 ⟨v3, rfl, hF, hB⟩ H; replace hF := hF.kp; skip)
  obtain ⟨b3, p3, m3, c3, rfl⟩ := hB.form
  obtain ⟨hL3, hl3, hb3, hmn3⟩ := hB.parts
  have HX : Hid (x = sg b3 x.natAbs) := hid (by rw [← hb3, sg_canon])
  have HN : Hid (b3 = true → x < 0) := hid (fun e => of_decide_eq_true (by rw [hb3]; exact e))
  have HL3 := hid hL3
  obtain ⟨A, hA⟩ : ∃ A, x.natAbs = A := ⟨_, rfl⟩
  rw [hA] at HL3 hl3 HX
  clear hL3 hb3 hB hA
  by_cases h2 : 2 < m3
  · have hr := hid (two_ge (by rw [hl3]; exact h2))
    clear hl3
    go_wp2_with (first | refine x_q H ?_ | (revert H; refine x_s2 ?_; intro w1 hf H hk; clear hf; change Kp _ _ at hk))
    ((try simp only [Exit.inBlock, Exit.then]); refine bodyPost_ret (results_tmp2 rfl _ _ _) rfl ?_)
    refine ⟨?_, H.fr⟩
    rw [intV_out (by rw [HX.out]; have := hr.out; unfold sg; cases b3 <;> simp <;> omega)]
    rfl
  · have hA64 := two_lt (digs_lim A) (by omega)
    rw [val_digs] at hA64
    have Hl3 := hid hl3
    clear hl3
    go_wp2_with (first | refine x_q H ?_ | (revert H; refine x_s2 ?_; intro w1 hf H hk; clear hf; change Kp _ _ at hk))
    have HL := hid (lr HL3)
    have Hf0 := hid H.fr
    have hg1 := H.at g
    have HG := (Hp.start [] w1).pushRng (b := g) (off := 0) (cs := [.bool b3, .slice p3 m3 c3]) (lt_of_get hg1) (by simp) (fun j u hj => by rw [Nat.zero_add]; exact H.cell hj)
    clear H hg1 HL3
    have H := HG
    clear HG
    go_loopw [4, 5] (fun s4 s5 wr => ∃ i u : Nat, i ≤ m3 ∧ s5 = .int .i64 (i : Int) ∧ s4 = .int .u64 (u : Int) ∧ Hid (u = val ((digs A).take i)) ∧ Hp [] w1 wr [.rng g 0 [.bool b3, .slice p3 m3 c3]]) (fun _ v _ => m3 - (intOf v).toNat)
    case atStart => exact ⟨0, 0, Nat.zero_le _, rfl, rfl, hid rfl, H⟩
    case round =>
      clear H
      obtain ⟨i, u, hi, rfl, rfl, Hu, H⟩ := hrel
      by_cases hin : i < m3
      · obtain ⟨x', hx⟩ : ∃ x', (digs A)[i]? = some x' := ⟨_, List.getElem?_eq_getElem (by rw [Hl3.out]; exact hin)⟩
        have hxv := limbs_at hx
        have hxB := (digs_lim A).at hx
        obtain ⟨b0, off, rfl, hb0, hcell⟩ := HL.out.rd.rng (limbs_ne (i := i) (by rw [Hl3.out]; exact hin))
        have H1 := H.pushRng (b := b0) (off := off) hb0 (by simp) hcell
        clear H hcell
        have H := H1
        clear H1
        have hi1 : i ≤ 1 := by omega
        obtain ⟨z, hz⟩ : ∃ z, x' * 4294967296 ^ i = z := ⟨_, rfl⟩
        have hsum : Hid (val ((digs A).take (i + 1)) = u + z) := hid (by rw [val_take_succ hx, ← Hu.out, ← hz, Nat.mul_comm])
        have hS64 : u + z < 18446744073709551616 := by
          rw [← hsum.out]
          exact two_lt ((digs_lim A).take _) (by rw [List.length_take]; omega)
        have hz64 : z < 18446744073709551616 := by omega
        have hor : bits .or .u64 (u : Int) (z : Int) = ((u + z : Nat) : Int) := or_nat64 (s := 32 * i) (x := x') (by
          rw [Hu.out, ← powB]
          have h1 := val_lt ((digs_lim A).take i)
          rwa [List.length_take, Nat.min_eq_left (by rw [Hl3.out]; exact hi)] at h1) (by rw [← hz, powB]) hS64
        have HOR : Hid (bits .or .u64 (u : Int) (IntKind.u64.wrap ((x' : Int) * 2 ^ (32 * i))) = ((u + z : Nat) : Int)) := hid (by
          rw [wrapN z (by rw [← hz, powB, Int.natCast_mul, Int.natCast_pow]; rfl) hz64, hor])
        clear hx hor hz
        go_wp2_with (refine x_q H ?_)
        go_roundw
        case rel => exact ⟨i + 1, u + z, by omega, by go_num, by rw [HOR.out], hid hsum.out.symm, H.sub (by repeat first | exact List.Sublist.refl _ | exact List.nil_sublist _ | apply List.Sublist.cons_cons | apply List.Sublist.cons)⟩
        case measure => (simp [intOf]; try omega)
      · have hu : u = A := by rw [Hu.out, List.take_of_length_le (by rw [Hl3.out]; omega), val_digs]
        subst hu
        clear Hu
        cases b3
        · have HX2 : Hid (x = (u : Int)) := hid (by rw [HX.out]; rfl)
          by_cases h63 : u ≤ 9223372036854775807
          · go_wp2_with (refine x_q H ?_)
            ((try simp only [Exit.inBlock, Exit.then]); refine bodyPost_ret (results_tmp2 rfl _ _ _) rfl ?_)
            refine ⟨?_, Hf0.out.trans H.fr⟩
            rw [intV_in (by rw [HX2.out]; omega), HX2.out]; rfl
          · have h64 : 9223372036854775807 < u := by omega
            go_wp2_with (refine x_q H ?_)
            ((try simp only [Exit.inBlock, Exit.then]); refine bodyPost_ret (results_tmp2 rfl _ _ _) rfl ?_)
            refine ⟨?_, Hf0.out.trans H.fr⟩
            rw [intV_out (by rw [HX2.out]; omega)]; rfl
        · have HX2 : Hid (x = -(u : Int)) := hid (by rw [HX.out]; rfl)
          have hu1 : 1 ≤ u := by have h1 := HN.out rfl; have h2 := HX2.out; omega
          by_cases h63 : u ≤ 9223372036854775808
          · go_wp2_with (refine x_q H ?_)
            ((try simp only [Exit.inBlock, Exit.then]); refine bodyPost_ret (results_tmp2 rfl _ _ _) rfl ?_)
            refine ⟨?_, Hf0.out.trans H.fr⟩
            rw [intV_in (by rw [HX2.out]; omega), HX2.out, show -(u : Int) = -((u : Int) - 1) - 1 by omega]; rfl
          · have h64 : 9223372036854775808 < u := by omega
            go_wp2_with (refine x_q H ?_)
            ((try simp only [Exit.inBlock, Exit.then]); refine bodyPost_ret (results_tmp2 rfl _ _ _) rfl ?_)
            refine ⟨?_, Hf0.out.trans H.fr⟩
            rw [intV_out (by rw [HX2.out]; omega)]; rfl
end Go.Proofs.YthbeeeclgbpopaaGreatDoor
