/-
  The decimals, plain: what is written is read back.
-/
import Derived.Test.YthbeeeclgbpopaaGreatDoorFb0
namespace Go.Proofs.YthbeeeclgbpopaaGreatDoor
set_option linter.unusedSimpArgs false
set_option linter.unusedVariables false
set_option maxRecDepth 100000
theorem dread_neg {t : List UInt8} (h : dsg t = (false, t)) {neg : Bool} {ds : List UInt8} {b : Nat} {x : Int} (hr : dread t = some (neg, ds, b, x)) : neg = false ∧ dread (45 :: t) = some (true, ds, b, x) := by
  unfold dread at hr ⊢
  rw [show dsg (45 :: t) = (true, t) from rfl]
  rw [h] at hr
  simp only [] at hr ⊢
  split at hr
  · cases hr
  · next h0 =>
    rw [if_neg h0]
    split at hr
    · next he =>
      simp only [Option.some.injEq, Prod.mk.injEq] at hr
      obtain ⟨rfl, rfl, rfl, rfl⟩ := hr
      exact ⟨rfl, rfl⟩
    · next e r he =>
      by_cases hE : isE e = true
      · rw [if_pos hE] at hr ⊢
        cases hd : dexp r with
        | none => rw [hd] at hr; cases hr
        | some y =>
          rw [hd] at hr
          simp only [Option.map_some, Option.some.injEq, Prod.mk.injEq] at hr ⊢
          obtain ⟨rfl, rfl, rfl, rfl⟩ := hr
          simp
      · rw [if_neg hE] at hr; cases hr
/-- A text with the minus of the float ahead of it. -/
theorem pz_minus {t : List UInt8} {z : Nat} (h : dsg t = (false, t)) (hl : t.length ≤ 1023) (hz : dpz 1024 t 0 = (z, 0)) : dpz 1024 (45 :: t) 0 = (z + 9223372036854775808, 0) := by
  have hz2 := hz
  unfold dpz at hz2
  rw [if_neg (by omega)] at hz2
  cases hr : dread t with
  | none => rw [hr] at hz2; simp at hz2
  | some q =>
    obtain ⟨neg, ds, b, x⟩ := q
    rw [hr] at hz2
    simp only [] at hz2
    by_cases hx : x < -99999 ∨ 99999 < x
    · rw [if_pos hx] at hz2; simp at hz2
    · rw [if_neg hx] at hz2
      simp only [Prod.mk.injEq, and_true] at hz2
      obtain ⟨rfl, h2⟩ := dread_neg h hr
      rw [dpz_of 0 (by rw [List.length_cons]; omega) h2 (by omega)]
      have := dval_mir 0 (num ds) (x - b)
      rw [show mir 0 = 0 from rfl, hz2] at this
      rw [this]
theorem mns_val {b z : Nat} (hz : b % 9223372036854775808 = z) (hb : b < 18446744073709551616) : sgnF (decide (9223372036854775808 ≤ b)) z = b := by
  unfold sgnF
  by_cases h : 9223372036854775808 ≤ b
  · rw [decide_eq_true h, if_pos rfl]; omega
  · rw [decide_eq_false h, if_neg (by decide)]; omega
/-- What Format writes is read back. -/
theorem fmt_back {b z : Nat} {l : List UInt8} (hb : b < 18446744073709551616) (hz : b % 9223372036854775808 = z) (h0 : 0 < z) (hz1 : z < 9218868437227405312) (h : Fmt b z l) : dpz 1024 l 0 = (b, 0) := by
  obtain ⟨n, ds, x, h1, h2, h3, h4, h5, rfl⟩ := h
  unfold mns
  by_cases hm : 9223372036854775808 ≤ b
  · rw [if_pos hm, List.singleton_append]
    obtain ⟨k, k1, k2, hl, hd, hq, hx, _⟩ := h3.val h0 h1
    obtain ⟨b1, b2⟩ := k_bounds h0 hz1 k1 k2
    have hf := fmt_short (x := x) (by omega)
    have e1 : (ds.take 1).length ≤ 1 := by rw [List.length_take]; omega
    have e2 : (if 1 < n then 46 :: ds.drop 1 else []).length ≤ n := by
      split
      · rw [List.length_cons, List.length_drop]; omega
      · exact Nat.zero_le _
    have hs : dsg (txt n ds x) = (false, txt n ds x) := by
      cases ds with
      | nil => simp at hl; omega
      | cons c r =>
        rw [List.all_cons, Bool.and_eq_true] at hd
        exact dsg_cons hd.1 _
    have := pz_minus hs (by unfold txt; rw [List.length_append, List.length_append, List.length_cons]; omega) h4
    rw [this]
    congr 1; omega
  · rw [if_neg hm, List.nil_append, h4]
    congr 1; omega
theorem zero_back {b : Nat} (hb : b < 18446744073709551616) (hz : b % 9223372036854775808 = 0) : dpz 1024 (mns b ++ [48]) 0 = (b, 0) := by
  obtain rfl | rfl : b = 0 ∨ b = 9223372036854775808 := by omega
  · decide +kernel
  · decide +kernel
theorem inf_back (b : Nat) (mode : Int) : dpz 1024 (mns b ++ [105, 110, 102]) mode = (0, 7) := by
  unfold mns
  split
  · unfold dpz
    rw [if_neg (by decide), show dread ([45] ++ [105, 110, 102]) = none by decide +kernel]
  · exact bad_pz mode _ (by decide)
theorem nan_back (mode : Int) : dpz 1024 [110, 97, 110] mode = (0, 7) := bad_pz mode _ (by decide)
/-! The exact value. -/
theorem nm_rnd (neg : Bool) (mode : Int) {z M : Nat} {e : Int} (h0 : 0 < z) (hz1 : z < 9218868437227405312) (h : Nm (manF z : Int) (expoF z) (M : Int) e) : 0 < M ∧ rndF neg mode M 1 e = sgnF neg z := by
  have hm := manF_pos h0
  have hn := h.ne (by omega)
  refine ⟨by omega, ?_⟩
  have := rnd_nm neg mode h (Nm.refl (x := 1) (e := 0) (by decide)) (by omega) (by decide)
  rw [Int.natAbs_natCast, Int.natAbs_natCast, Int.sub_zero, Int.sub_zero] at this
  rw [show (1 : Int).natAbs = 1 from rfl] at this
  rw [this, rnd_back neg mode h0 hz1]
theorem nm_zero {z M : Nat} {e : Int} (h0 : z = 0) (h : Nm (manF z : Int) (expoF z) (M : Int) e) : M = 0 ∧ e = 0 := by
  subst h0
  rcases h with ⟨h1, h2, h3⟩ | ⟨h1, _⟩
  · exact ⟨by omega, h3⟩
  · exact absurd rfl h1
theorem rnd_up (neg : Bool) (mode : Int) {M : Nat} (j : Nat) (hM : 0 < M) : dvF neg mode (M * 2 ^ j) 0 = rndF neg mode M 1 j := by
  unfold dvF
  have e : (0 : Int).toNat = 0 := rfl
  have e2 : (-0 : Int).toNat = 0 := rfl
  rw [e, e2, Nat.pow_zero, Nat.mul_one, rndF_left neg mode 0 hM (by decide) j, Int.zero_add]
theorem rnd_dn (neg : Bool) (mode : Int) {M : Nat} (k : Nat) (hM : 0 < M) : dvF neg mode (M * 5 ^ k) (-(k : Int)) = rndF neg mode M 1 (-(k : Int)) := by
  unfold dvF
  have e : (-(k : Int)).toNat = 0 := by omega
  have e2 : (-(-(k : Int))).toNat = k := by omega
  have h5 : 0 < 5 ^ k := Nat.pow_pos (by decide)
  have h10 : 10 ^ k = 5 ^ k * 1 * 2 ^ k := by rw [Nat.mul_one, ← Nat.mul_pow]
  rw [e, e2, Nat.pow_zero, Nat.mul_one, h10, rndF_right neg mode 0 (Nat.mul_pos hM h5) (Nat.mul_pos h5 (by decide)) k, Nat.mul_comm M, rndF_mul neg mode _ hM (by decide) h5, Int.zero_sub]
/-- A text with at most a point, behind the float's minus. -/
theorem dread_mns {b : Nat} {t ds : List UInt8} {k : Nat} (h : dsg t = (false, t)) (hs : scan false t = (ds, k, [])) (h0 : ds ≠ []) : dread (mns b ++ t) = some (decide (9223372036854775808 ≤ b), ds, k, 0) := by
  have hd : dsg (mns b ++ t) = (decide (9223372036854775808 ≤ b), t) := by
    unfold mns
    by_cases hm : 9223372036854775808 ≤ b
    · rw [if_pos hm, decide_eq_true hm]; rfl
    · rw [if_neg hm, decide_eq_false hm, List.nil_append, h]
  unfold dread
  rw [hd]
  simp only [hs]
  rw [if_neg h0]
theorem num_padE (k : Nat) (s : List UInt8) : num (padE k s) = num s := by
  have h : ∀ n, num (List.replicate n 48 ++ s) = num s := by
    intro n
    rw [num_app]
    have : num (List.replicate n (48 : UInt8)) = 0 := by
      induction n with
      | zero => rfl
      | succ n ih => rw [List.replicate_succ']; rw [num_app, ih]; rfl
    rw [this]; omega
  unfold padE
  split
  · exact h _
  · rfl
theorem padE_dig (k : Nat) {s : List UInt8} (h : s.all dig = true) : (padE k s).all dig = true := by
  unfold padE
  split
  · rw [List.all_append, h, Bool.and_true, List.all_eq_true]
    intro x hx
    rw [(List.mem_replicate.1 hx).2]; decide
  · exact h
theorem padE_len (k : Nat) (s : List UInt8) : k + 1 ≤ (padE k s).length := by
  unfold padE
  split
  · rw [List.length_append, List.length_replicate]; omega
  · omega
/-- What Exact writes is read as the float, in each mode. -/
theorem ex_back {b z : Nat} {l : List UInt8} (hb : b < 18446744073709551616) (hz : b % 9223372036854775808 = z) (hz1 : z < 9218868437227405312) (h : Ex b z l) (hl : l.length ≤ 1024) (mode : Int) : dpz 1024 l mode = (b, 0) := by
  have hfin : ∀ (N : Nat) (x : Int), (z = 0 → N = 0) → (0 < z → 0 < N ∧ dvF (decide (9223372036854775808 ≤ b)) mode N x = sgnF (decide (9223372036854775808 ≤ b)) z) → dval (decide (9223372036854775808 ≤ b)) mode N x = b := by
    intro N x a1 a2
    unfold dval
    rcases Nat.eq_zero_or_pos z with h0 | h0
    · rw [if_pos (a1 h0), ← h0, mns_val hz hb]
    · obtain ⟨b1, b2⟩ := a2 h0
      rw [if_neg (by omega), b2, mns_val hz hb]
  obtain ⟨M, e, hn, ⟨j, rfl, rfl⟩ | ⟨k, rfl, hk, rfl⟩⟩ := h
  · obtain ⟨d1, d2, d3⟩ := dec_digits (M * 2 ^ j)
    have hs : scan false (dec (M * 2 ^ j)) = (dec (M * 2 ^ j), 0, []) := by
      have := scan_app d1 false []
      rw [List.append_nil] at this
      rw [this]; simp [scan]
    rw [dpz_of mode hl (dread_mns (dsg_digs d1) hs d3) (by decide), d2]
    congr 1
    refine hfin _ _ (fun h0 => ?_) (fun h0 => ?_)
    · obtain ⟨rfl, _⟩ := nm_zero h0 hn
      exact Nat.zero_mul _
    · obtain ⟨hM, hr⟩ := nm_rnd (decide (9223372036854775808 ≤ b)) mode h0 hz1 hn
      exact ⟨Nat.mul_pos hM (pow2_pos j), by rw [show ((0 : Int) - ((0 : Nat) : Int)) = 0 from rfl, rnd_up _ _ _ hM, hr]⟩
  · obtain ⟨d1, d2, d3⟩ := dec_digits (M * 5 ^ k)
    have p1 := padE_dig k d1
    have p2 := padE_len k (dec (M * 5 ^ k))
    have p3 : num (padE k (dec (M * 5 ^ k))) = M * 5 ^ k := by rw [num_padE, d2]
    generalize padE k (dec (M * 5 ^ k)) = D at *
    have hD : D = D.take (D.length - k) ++ D.drop (D.length - k) := (List.take_append_drop _ D).symm
    have ha : (D.take (D.length - k)).all dig = true := by
      rw [hD, List.all_append, Bool.and_eq_true] at p1; exact p1.1
    have hb' : (D.drop (D.length - k)).all dig = true := by
      rw [hD, List.all_append, Bool.and_eq_true] at p1; exact p1.2
    have hkl : (D.drop (D.length - k)).length = k := by rw [List.length_drop]; omega
    have hne : D.take (D.length - k) ≠ [] := by
      intro e
      have := congrArg List.length e
      rw [List.length_take, List.length_nil] at this
      omega
    have h1 : scan false (46 :: D.drop (D.length - k)) = (D.drop (D.length - k), k, []) := by
      rw [scan, if_neg (by decide), if_pos ⟨rfl, rfl⟩]
      have := scan_app hb' true []
      rw [List.append_nil] at this
      rw [this, if_pos rfl, hkl]
      simp [scan]
    have hs : scan false (D.take (D.length - k) ++ 46 :: D.drop (D.length - k)) = (D, k, []) := by
      rw [scan_app ha, h1]
      simp only []
      rw [← hD]
      simp
    have hds : dsg (D.take (D.length - k) ++ 46 :: D.drop (D.length - k)) = (false, D.take (D.length - k) ++ 46 :: D.drop (D.length - k)) := by
      cases hq : D.take (D.length - k) with
      | nil => exact absurd hq hne
      | cons c r =>
        rw [hq, List.all_cons, Bool.and_eq_true] at ha
        exact dsg_cons ha.1 _
    rw [dpz_of mode hl (dread_mns hds hs (by intro e; rw [e] at p2; simp at p2)) (by decide), p3]
    congr 1
    refine hfin _ _ (fun h0 => ?_) (fun h0 => ?_)
    · obtain ⟨rfl, _⟩ := nm_zero h0 hn
      exact Nat.zero_mul _
    · obtain ⟨hM, hr⟩ := nm_rnd (decide (9223372036854775808 ≤ b)) mode h0 hz1 hn
      exact ⟨Nat.mul_pos hM (Nat.pow_pos (by decide)), by rw [Int.zero_sub, rnd_dn _ _ _ hM, hr]⟩
end Go.Proofs.YthbeeeclgbpopaaGreatDoor
