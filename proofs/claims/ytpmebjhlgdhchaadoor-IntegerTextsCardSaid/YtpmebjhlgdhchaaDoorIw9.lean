/-
  The integers: products of magnitudes.
-/
import Derived.Test.YtpmebjhlgdhchaaDoorIw8
namespace Go.Proofs.YtpmebjhlgdhchaaDoor
open Go.RowKit
set_option linter.unusedSimpArgs false
set_option linter.unusedVariables false
set_option maxHeartbeats 4000000
set_option maxRecDepth 100000
theorem times_next (i j x y V T : Nat) : V + 4294967296 ^ i * (x * T) + 4294967296 ^ (i + j) * (x * y) = V + 4294967296 ^ i * (x * (T + 4294967296 ^ j * y)) := by
  rw [Nat.pow_add, Nat.mul_add x, Nat.mul_add, Nat.mul_assoc, Nat.mul_left_comm x, Nat.add_assoc]
theorem times_row (i x A B : Nat) : A * B + 4294967296 ^ i * (x * B) = (A + 4294967296 ^ i * x) * B := by
  rw [Nat.add_mul, Nat.mul_assoc]
theorem wrapN {z : Int} (n : Nat) (h : z = (n : Int)) (hn : n < 18446744073709551616) : IntKind.u64.wrap z = (n : Int) := by
  rw [h, IntKind.wrap_u64]; omega
/-- One limb of a product, as the words have it. -/
theorem mul_word {x y o cy : Nat} (hx : x < 4294967296) (hy : y < 4294967296) (ho : o < 4294967296) (hc : cy < 4294967296) :
    IntKind.u64.wrap (IntKind.u64.wrap (IntKind.u64.wrap ((x : Int) * (y : Int)) + (o : Int)) + (cy : Int)) = ((x * y + o + cy : Nat) : Int) := by
  have hb := times_bound hx hy ho hc
  have e1 : IntKind.u64.wrap ((x : Int) * (y : Int)) = ((x * y : Nat) : Int) := wrapN _ (by rw [Int.natCast_mul]) (by omega)
  rw [e1]
  have e2 : IntKind.u64.wrap (((x * y : Nat) : Int) + (o : Int)) = ((x * y + o : Nat) : Int) := wrapN _ (by omega) (by omega)
  rw [e2]
  exact wrapN _ (by omega) hb
theorem mul_word2 {x y o cy : Nat} (hx : x < 4294967296) (hy : y < 4294967296) (ho : o < 4294967296) (hc : cy < 4294967296) :
    IntKind.u64.wrap (IntKind.u64.wrap ((cy : Int) + IntKind.u64.wrap ((x : Int) * (y : Int))) + (o : Int)) = ((x * y + o + cy : Nat) : Int) := by
  have hb := times_bound hx hy ho hc
  have e1 : IntKind.u64.wrap ((x : Int) * (y : Int)) = ((x * y : Nat) : Int) := wrapN _ (by rw [Int.natCast_mul]) (by omega)
  rw [e1]
  have e2 : IntKind.u64.wrap ((cy : Int) + ((x * y : Nat) : Int)) = ((cy + x * y : Nat) : Int) := wrapN _ (by omega) (by omega)
  rw [e2]
  exact wrapN _ (by omega) hb
theorem low_nat {t : Nat} (h : t < 18446744073709551616) : bits .and .u64 (t : Int) 4294967295 % 4294967296 = ((t % 4294967296 : Nat) : Int) := by
  rw [and_low32 _ (by omega) (by omega)]; omega
set_option maxHeartbeats 8000000 in
theorem times_any {w : World} {p q : Option Addr} {n m c d : Nat} (a b : List Nat) (hn : a.length = n) (hm : b.length = m) (hn0 : n ≤ 400000) (hm0 : m ≤ 400000) (h : LR w p c a) (k : LR w q d b) :
    Calls Tryd.prog 63 #[.slice p n c, .slice q m d] w fun e w' => ∃ p' c', e = .returned (.slice p' (digs (val a * val b)).length c') ∧ Fr [] w w' ∧ LR w' p' c' (digs (val a * val b)) := by
  subst hn hm
  have Hh := hid h
  have Hk := hid k
  clear h k
  have H := Hp.start [] w
  by_cases ha : a.length ≤ 0
  · have e : val a = 0 := by rw [List.eq_nil_of_length_eq_zero (show a.length = 0 by omega)]; rfl
    have He := hid e
    clear e
    go_enter Tryd.func63, Tryd.ntmps63
    go_wp2_with (first | refine x_q H ?_ | refine x_cm (fun h => ?_) (fun h => ?_) | (revert H; first | (refine x_g ?_; intro g w1 hg hf H) | (refine x_s ?_; intro w1 hf H); (try clear hf)))
    go_ret
    rw [He.out, Nat.zero_mul, digs_zero]
    exact ⟨none, 0, rfl, H.fr, LR.zero _⟩
  by_cases hb : b.length ≤ 0
  · have e : val b = 0 := by rw [List.eq_nil_of_length_eq_zero (show b.length = 0 by omega)]; rfl
    have He := hid e
    clear e
    go_enter Tryd.func63, Tryd.ntmps63
    go_wp2_with (first | refine x_q H ?_ | refine x_cm (fun h => ?_) (fun h => ?_) | (revert H; first | (refine x_g ?_; intro g w1 hg hf H) | (refine x_s ?_; intro w1 hf H); (try clear hf)))
    go_ret
    rw [He.out, Nat.mul_zero, digs_zero]
    exact ⟨none, 0, rfl, H.fr, LR.zero _⟩
  have ha1 : 0 < a.length := by omega
  have hb1 : 0 < b.length := by omega
  clear ha hb
  go_enter Tryd.func63, Tryd.ntmps63
  go_wp2_with (first | refine x_q H ?_ | refine x_cm (fun h => ?_) (fun h => ?_) | (revert H; first | (refine x_g ?_; intro g w1 hg hf H) | (refine x_s ?_; intro w1 hf H); (try clear hf)))
  rw [show ((a.length : Int) + (b.length : Int)).toNat = a.length + b.length by omega, zeros_limbs] at H
  go_loopw [28] (fun s28 wr => ∃ (i : Nat) (o : List Nat), i ≤ a.length ∧ s28 = .int .i64 i ∧ Hid (o.length = a.length + b.length) ∧ Hid (Lim o) ∧ Hid (val o = val (a.take i) * val b) ∧ Hid (∀ k, i + b.length ≤ k → k < a.length + b.length → o[k]? = some 0) ∧ Hp [] w wr [.blk g (limbs o) 54]) (fun v _ => a.length - (intOf v).toNat)
  case atStart => exact ⟨0, List.replicate (a.length + b.length) 0, Nat.zero_le _, rfl, hid List.length_replicate, hid (Lim.zeros _), hid (by rw [val_zeros]; simp [val]), hid (fun k _ hk => by rw [List.getElem?_replicate, if_pos hk]), H⟩
  case round =>
    clear H
    obtain ⟨i, o, hi, rfl, Hol, Hlo, Hv, Hz, H⟩ := hrel
    by_cases hin : i < a.length
    · obtain ⟨x, hx⟩ : ∃ x, a[i]? = some x := ⟨_, List.getElem?_eq_getElem hin⟩
      have hxv := limbs_at hx
      have hxB := Hh.out.lim.at hx
      have Hx := hid hx
      clear hx
      obtain ⟨b0, off, rfl, hb0, hcell⟩ := Hh.out.rd.rng (limbs_ne (i := i) hin)
      have H1 := H.pushRng (b := b0) (off := off) hb0 (by simp) hcell
      clear H hcell
      have H := H1
      clear H1
      go_wp2_with (first | refine x_q H ?_ | refine x_cm (fun h => ?_) (fun h => ?_) | (revert H; first | (refine x_g ?_; intro g w1 hg hf H) | (refine x_s ?_; intro w1 hf H); (try clear hf)))
      have H1 := H.sub (l' := [.blk g (limbs o) 54]) (by repeat first | exact List.Sublist.refl _ | exact List.nil_sublist _ | apply List.Sublist.cons_cons | apply List.Sublist.cons)
      clear H
      have H := H1
      clear H1
      go_loopw [8, 35] (fun s8 s35 wr => ∃ (j : Nat) (o : List Nat) (cy : Nat), j ≤ b.length ∧ s35 = .int .i64 j ∧ s8 = .int .u64 cy ∧ cy < 4294967296 ∧ Hid (o.length = a.length + b.length) ∧ Hid (Lim o) ∧ Hid (val o + 4294967296 ^ (i + j) * cy = val (a.take i) * val b + 4294967296 ^ i * (x * val (b.take j))) ∧ Hid (∀ k, i + b.length ≤ k → k < a.length + b.length → o[k]? = some 0) ∧ Hp [] w wr [.blk g (limbs o) 54]) (fun _ v _ => b.length - (intOf v).toNat)
      case atStart => exact ⟨0, o, 0, Nat.zero_le _, rfl, rfl, by decide, Hol, Hlo, hid (by rw [Hv.out]; simp [val]), Hz, H⟩
      case round =>
        clear H Hol Hlo Hv Hz
        clear o
        obtain ⟨j, o, cy, hj, rfl, rfl, hcy, Hol, Hlo, Hv, Hz, H⟩ := hrel
        by_cases hjn : j < b.length
        · obtain ⟨y, hy⟩ : ∃ y, b[j]? = some y := ⟨_, List.getElem?_eq_getElem hjn⟩
          have hyv := limbs_at hy
          have hyB := Hk.out.lim.at hy
          have Hy := hid hy
          clear hy
          have hij : i + j < o.length := by rw [Hol.out]; omega
          obtain ⟨ov, hov⟩ : ∃ ov, o[i + j]? = some ov := ⟨_, List.getElem?_eq_getElem hij⟩
          have hovv : (limbs o)[((i : Int) + (j : Int)).toNat]? = some (.int .u32 (ov : Int)) := by rw [show ((i : Int) + (j : Int)).toNat = i + j by omega]; exact limbs_at hov
          have hoB := Hlo.out.at hov
          have Hov := hid hov
          clear hov
          obtain ⟨b1, off1, he1, hb1', hcell1⟩ := Hk.out.rd.rng (limbs_ne (i := j) hjn)
          have H1 := H.pushRng (b := b1) (off := off1) hb1' (by simp) hcell1
          clear H hcell1
          have H := H1
          clear H1
          subst he1
          have HM := hid (mul_word hxB hyB hoB hcy)
          have HT : Hid (∃ t, x * y + ov + cy = t ∧ t < 18446744073709551616) := hid ⟨_, rfl, times_bound hxB hyB hoB hcy⟩
          obtain ⟨t, ht, htB⟩ := HT.out
          rw [ht] at HM
          have Ht := hid ht
          clear ht HT
          go_wp2_with (first | refine x_q H ?_ | refine x_cm (fun h => ?_) (fun h => ?_) | refine x_e (ev_low rfl rfl) ?_ | refine x_e (ev_high rfl rfl) ?_ | (revert H; first | (refine x_g ?_; intro g w1 hg hf H) | (refine x_s ?_; intro w1 hf H); (try clear hf)))
          rw [HM.out, low_nat htB, show ((i : Int) + (j : Int)).toNat = i + j by omega, limbs_set] at H
          rw [HM.out]
          go_roundw
          case rel => exact ⟨j + 1, o.set (i + j) (t % 4294967296), t / 4294967296, by omega, by go_num, by rw [Int.natCast_ediv]; rfl, by omega, hid (by rw [List.length_set]; exact Hol.out), hid (Hlo.out.set _ (Nat.mod_lt _ (by decide))), hid (by rw [← Nat.add_assoc, times_round Hov.out Hv.out Ht.out.symm, val_take_succ Hy.out]; exact times_next ..), hid (fun k hk1 hk2 => by rw [List.getElem?_set_ne (by omega)]; exact Hz.out k hk1 hk2), H.sub (by repeat first | exact List.Sublist.refl _ | exact List.nil_sublist _ | apply List.Sublist.cons_cons | apply List.Sublist.cons)⟩
          case measure => (simp [intOf]; try omega)
        · have e : j = b.length := by omega
          have hib : i + b.length < o.length := by rw [Hol.out]; omega
          have H0 := hid (Hz.out (i + b.length) (Nat.le_refl _) (by omega))
          have HV : Hid (val (o.set (i + b.length) cy) = val (a.take (i + 1)) * val b) := hid (by
            have hv := Hv.out
            rw [e, List.take_of_length_le (Nat.le_refl _)] at hv
            rw [set_zero_end H0.out hv, val_take_succ Hx.out]
            exact times_row ..)
          clear e
          go_wp2_with (first | refine x_q H ?_ | refine x_cm (fun h => ?_) (fun h => ?_) | refine x_e (ev_low rfl rfl) ?_ | refine x_e (ev_high rfl rfl) ?_ | (revert H; first | (refine x_g ?_; intro g w1 hg hf H) | (refine x_s ?_; intro w1 hf H); (try clear hf)))
          rw [show ((i : Int) + (b.length : Int)).toNat = i + b.length by omega, limbs_set] at H
          go_roundw
          case rel => exact ⟨i + 1, o.set (i + b.length) cy, by omega, by go_num, hid (by rw [List.length_set]; exact Hol.out), hid (Hlo.out.set _ hcy), HV, hid (fun k hk1 hk2 => by rw [List.getElem?_set_ne (by omega)]; exact Hz.out k (by omega) hk2), H⟩
          case measure => (simp [intOf]; try omega)
    · have e : i = a.length := by omega
      have HV : Hid (val o = val a * val b) := hid (by rw [Hv.out, e, List.take_of_length_le (Nat.le_refl _)])
      clear e
      go_wp2_with (first | refine x_q H ?_ | refine x_cm (fun h => ?_) (fun h => ?_) | (revert H; first | (refine x_g ?_; intro g w1 hg hf H) | (refine x_s ?_; intro w1 hf H); (try clear hf)))
      have hL : LR _ (some ⟨g, 0, none⟩) (a.length + b.length) o := LR.of_blk (pad := []) (by rw [List.append_nil]; exact H.at g) Hlo.out (by rw [Hol.out]; exact Nat.le_refl _) (by unfold maxLen; omega)
      have HL := hid hL
      refine Calls.mono (trim_any o Hol.out HL.out) ?_
      rintro e w1 ⟨rfl, hF⟩
      have HL2 := hid (hL.fr hF).trim
      have H1 := H.step hF (by simp)
      clear H hF hL HL
      have H := H1
      clear H1
      go_wp2_with (first | refine x_q H ?_ | refine x_cm (fun h => ?_) (fun h => ?_) | (revert H; first | (refine x_g ?_; intro g w1 hg hf H) | (refine x_s ?_; intro w1 hf H); (try clear hf)))
      go_ret
      rw [HV.out] at HL2
      exact ⟨_, _, by rw [HV.out]; rfl, H.fr, HL2.out⟩
end Go.Proofs.YtpmebjhlgdhchaaDoor
