import Derived.Test.YthbeeeclgbpopaaGreatDoorYIw15
import Derived.Shelf.Small.Bits
import Derived.Deep.DeepCutAuto
import Derived.Deep.CutBlock
import Derived.Shelf.Spec.TrailingZeros
namespace Go.Proofs.YthbeeeclgbpopaaGreatDoor
namespace Go.Proofs
open Go.Shelf
set_option linter.unusedSimpArgs false
set_option linter.unusedVariables false
def Tryz.lays128_ren : Go.Shelf.Ren := ⟨fun | 128 => 200 | n => n, fun | 51 => 99 | 3 => 3 | 4 => 4 | 46 => 75 | 5 => 5 | 9 => 9 | n => n, fun | n => n⟩
theorem Tryz.lays128 : Go.Proofs.Lays.n128 Tryz.prog Tryz.lays128_ren := {
 mixed := by kernel_rfl
 f128 := Tryz.func200.trans (congrArg some (by kernel_rfl))
 t3 := Tryz.underlying3
 a3 := Tryz.isAgg3
 z3 := Tryz.sizeOf3
 v3 := Tryz.zeroValue3
 t4 := Tryz.underlying4
 a4 := Tryz.isAgg4
 z4 := Tryz.sizeOf4
 v4 := Tryz.zeroValue4
 t5 := Tryz.underlying5
 a5 := Tryz.isAgg5
 z5 := Tryz.sizeOf5
 v5 := Tryz.zeroValue5
 t9 := Tryz.underlying9
 a9 := Tryz.isAgg9
 z9 := Tryz.sizeOf9
 v9 := Tryz.zeroValue9
 t46 := Tryz.underlying75
 a46 := Tryz.isAgg75
 z46 := Tryz.sizeOf75
 v46 := Tryz.zeroValue75
 t51 := Tryz.underlying99
 a51 := Tryz.isAgg99
 z51 := Tryz.sizeOf99
 v51 := Tryz.zeroValue99 }
theorem Tryz.bits_Len32 (x : Int) (w : World) (h0 : 0 ≤ x) (h1 : x ≤ 4294967295) :
  Calls Tryz.prog 200 #[.int .u32 x] w fun e w' => e = .returned (.int .i64 (Lib.bitLen x.toNat)) ∧ w' = w := Any.bits_Len32 Tryz.lays128 x w h0 h1
def Tryz.lays133_ren : Go.Shelf.Ren := ⟨fun | 133 => 179 | 128 => 200 | n => n, fun | 51 => 99 | 3 => 3 | 4 => 4 | 46 => 75 | 5 => 5 | 9 => 9 | n => n, fun | n => n⟩
theorem Tryz.lays133 : Go.Proofs.Lays.n133 Tryz.prog Tryz.lays133_ren := {
 mixed := by kernel_rfl
 f128 := Tryz.func200.trans (congrArg some (by kernel_rfl))
 f133 := Tryz.func179.trans (congrArg some (by kernel_rfl))
 t3 := Tryz.underlying3
 a3 := Tryz.isAgg3
 z3 := Tryz.sizeOf3
 v3 := Tryz.zeroValue3
 t4 := Tryz.underlying4
 a4 := Tryz.isAgg4
 z4 := Tryz.sizeOf4
 v4 := Tryz.zeroValue4
 t5 := Tryz.underlying5
 a5 := Tryz.isAgg5
 z5 := Tryz.sizeOf5
 v5 := Tryz.zeroValue5
 t9 := Tryz.underlying9
 a9 := Tryz.isAgg9
 z9 := Tryz.sizeOf9
 v9 := Tryz.zeroValue9
 t46 := Tryz.underlying75
 a46 := Tryz.isAgg75
 z46 := Tryz.sizeOf75
 v46 := Tryz.zeroValue75
 t51 := Tryz.underlying99
 a51 := Tryz.isAgg99
 z51 := Tryz.sizeOf99
 v51 := Tryz.zeroValue99 }
theorem Tryz.bits_LeadingZeros32 (x : Int) (w : World) (h0 : 0 ≤ x) (h1 : x ≤ 4294967295) :
  Calls Tryz.prog 179 #[.int .u32 x] w fun e w' => e = .returned (.int .i64 (32 - (Lib.bitLen x.toNat : Int))) ∧ w' = w := Any.bits_LeadingZeros32 Tryz.lays133 x w h0 h1
end Go.Proofs
open Go.RowKit
theorem bl_half {x : Nat} (h : x ≠ 0) : bl x = 1 + bl (x / 2) := by
 by_cases h1 : x = 1
 ·subst h1; rfl
 ·obtain ⟨a1, a2⟩ := bl_ge (n := x / 2) (by omega)
  have a3 := bl_lt (x / 2)
  have e : 2 ^ bl (x / 2) = 2 * 2 ^ (bl (x / 2) - 1) := by
   obtain ⟨k, hk⟩ : ∃ k, bl (x / 2) = k + 1 := ⟨bl (x / 2) - 1, by omega⟩
   rw [hk, Nat.pow_succ, Nat.add_sub_cancel, Nat.mul_comm]
  rw [Nat.add_comm]
  apply bl_of
  ·omega
  ·rw [Nat.pow_succ]; omega
theorem bitLen_bl : ∀ (f x : Nat), x < 2 ^ f → Lib.bitLenAux f x = bl x
 | 0, x, h => by
  have : x = 0 := by simpa using h
  subst this; rfl
 | f + 1, x, h => by
  unfold Lib.bitLenAux
  by_cases h0 : x = 0
  ·subst h0; rfl
  ·rw [if_neg h0, bitLen_bl f (x / 2) (by rw [Nat.pow_succ] at h; omega), bl_half h0]
theorem bl_32 {x : Nat} (h : x < 4294967296) : bl x ≤ 32 := by
 apply Classical.byContradiction
 intro hn
 have h0 : x ≠ 0 := fun e => by rw [e, bl_zero] at hn; omega
 obtain ⟨a1, _⟩ := bl_ge h0
 have : 2 ^ 32 ≤ 2 ^ (bl x - 1) := Nat.pow_le_pow_right (by decide) (by omega)
 omega
theorem Fr.same {T : List Nat} (w : World) : Fr T w w := (Hp.start T w).fr
theorem len32_any (w : World) {x : Nat} (h : x < 4294967296) : Calls Tryz.prog 200 #[.int .u32 (x : Int)] w fun e w' => e = .returned (.int .i64 (bl x : Int)) ∧ Fr [] w w' := by
 refine Calls.mono (Go.Proofs.Tryz.bits_Len32 (x : Int) w (by omega) (by omega)) ?_
 rintro e w' ⟨rfl, rfl⟩
 refine ⟨?_, Fr.same _⟩
 have : Lib.bitLen ((x : Int)).toNat = bl x := by rw [Int.toNat_natCast]; exact bitLen_bl 64 x (by omega)
 rw [this]
theorem lead32_any (w : World) {x : Nat} (h : x < 4294967296) : Calls Tryz.prog 179 #[.int .u32 (x : Int)] w fun e w' => e = .returned (.int .i64 ((32 - bl x : Nat) : Int)) ∧ Fr [] w w' := by
 refine Calls.mono (Go.Proofs.Tryz.bits_LeadingZeros32 (x : Int) w (by omega) (by omega)) ?_
 rintro e w' ⟨rfl, rfl⟩
 refine ⟨?_, Fr.same _⟩
 have : Lib.bitLen ((x : Int)).toNat = bl x := by rw [Int.toNat_natCast]; exact bitLen_bl 64 x (by omega)
 have h2 := bl_32 h
 rw [this, show (32 : Int) - (bl x : Int) = ((32 - bl x : Nat) : Int) by omega]
set_option maxHeartbeats 4000000
set_option maxRecDepth 100000
theorem bits_or_u32_nat (a b : Nat) (ha : a < 4294967296) (hb : b < 4294967296) : bits .or .u32 (a : Int) (b : Int) = ((a ||| b : Nat) : Int) := by
 have hx : a ||| b < 2 ^ 32 := Nat.or_lt_two_pow (by omega) (by omega)
 have h1 : (BitVec.ofInt 32 (a : Int)).toNat = a := by
  rw [BitVec.ofInt_natCast, BitVec.toNat_ofNat]; exact Nat.mod_eq_of_lt (by omega)
 have h2 : (BitVec.ofInt 32 (b : Int)).toNat = b := by
  rw [BitVec.ofInt_natCast, BitVec.toNat_ofNat]; exact Nat.mod_eq_of_lt (by omega)
 show IntKind.u32.wrap ((BitVec.ofInt 32 (a : Int) ||| BitVec.ofInt 32 (b : Int)).toNat : Int) = _
 rw [BitVec.toNat_or, h1, h2]
 exact wrap_inr (by simp only [inr]; omega)
theorem up_alg (W i q x T : Nat) : 4294967296 ^ W * (2 ^ q * T) + 4294967296 ^ (W + i) * (x * 2 ^ q) = 4294967296 ^ W * (2 ^ q * (T + 4294967296 ^ i * x)) := by
 rw [Nat.pow_add, Nat.mul_add, Nat.mul_add, Nat.mul_assoc, Nat.mul_comm x, Nat.mul_left_comm (4294967296 ^ i)]
set_option maxHeartbeats 8000000 in
theorem up_any {w : World} {p : Option Addr} {n c : Nat} (a : List Nat) (s : Nat) (hn : a.length = n) (hn0 : n ≤ 1000000) (hs : s ≤ 64000000) (h : LR w p c a) :
  Calls Tryz.prog 140 #[.slice p n c, .int .i64 (s : Int)] w fun e w' => ∃ p' c', e = .returned (.slice p' (digs (val a * 2 ^ s)).length c') ∧ Fr [] w w' ∧ LR w' p' c' (digs (val a * 2 ^ s)) := by
 subst hn
 have Hh := hid h
 clear h
 have H := Hp.start [] w
 by_cases ha : a.length ≤ 0
 ·have e : val a = 0 := by rw [List.eq_nil_of_length_eq_zero (show a.length = 0 by omega)]; rfl
  have He := hid e
  clear e
  go_enter Tryz.func140, Tryz.ntmps140
  go_wp2_with (refine x_q H ?_)
  go_ret
  rw [He.out, Nat.zero_mul, digs_zero]
  exact ⟨none, 0, rfl, H.fr, LR.zero _⟩
 obtain ⟨W, hW⟩ : ∃ W, s / 32 = W := ⟨_, rfl⟩
 obtain ⟨q, hq⟩ : ∃ q, s % 32 = q := ⟨_, rfl⟩
 have ha1 : 0 < a.length := by omega
 have hq32 : q < 32 := by omega
 have HS : Hid (s = 32 * W + q) := hid (by omega)
 have HW : Hid ((s : Int) / 32 = (W : Int)) := hid (by omega)
 have HQ : Hid ((s : Int) % 32 = (q : Int)) := hid (by omega)
 clear ha hW hq
 go_enter Tryz.func140, Tryz.ntmps140
 go_wp2_with (first | refine x_q H ?_ | (revert H; refine x_g ?_; intro g w1 hg hf H; (try clear hf)))
 rw [show ((s : Int) / 32 + (a.length : Int) + 1).toNat = W + a.length + 1 by have := HW.out; omega, zeros_limbs] at H
 have hq2 : 0 < 2 ^ q := Nat.two_pow_pos q
 rw [HW.out, HQ.out]
 go_loopw [27] (fun s27 wr => ∃ (i o : Nat) (l : List Nat), i ≤ a.length ∧ s27 = .int .i64 (i : Int) ∧ o < 2 ^ q ∧ Hid (l.length = W + a.length + 1) ∧ Hid (Lim l) ∧ Hid (val l = 4294967296 ^ W * (2 ^ q * val (a.take i))) ∧ Hid (l[W + i]? = some o) ∧ Hid (∀ k, W + i < k → k < W + a.length + 1 → l[k]? = some 0) ∧ Hp [] w wr [.blk g (limbs l) 99]) (fun v _ => a.length - (intOf v).toNat)
 case atStart => exact ⟨0, 0, List.replicate (W + a.length + 1) 0, Nat.zero_le _, rfl, hq2, hid List.length_replicate, hid (Lim.zeros _), hid (by rw [val_zeros]; simp [val]), hid (by rw [List.getElem?_replicate, if_pos (by omega)]), hid (fun k _ hk => by rw [List.getElem?_replicate, if_pos hk]), H⟩
 case round =>
  clear H
  obtain ⟨i, o, l, hi, rfl, ho, Hll, Hlim, Hv, Ho, Hz, H⟩ := hrel
  by_cases hin : i < a.length
  ·obtain ⟨x, hx⟩ : ∃ x, a[i]? = some x := ⟨_, List.getElem?_eq_getElem hin⟩
   have hxv := limbs_at hx
   have hxB := Hh.out.lim.at hx
   have Hx := hid hx
   clear hx
   obtain ⟨b0, off, rfl, hb0, hcell⟩ := Hh.out.rd.rng (limbs_ne (i := i) hin)
   have H1 := H.pushRng (b := b0) (off := off) hb0 (by simp) hcell
   clear H hcell
   have H := H1
   clear H1
   have ht64 : x * 2 ^ q < 18446744073709551616 := by
    have h1 : 2 ^ q ≤ 2 ^ 31 := Nat.pow_le_pow_right (by decide) (by omega)
    have h2 : x * 2 ^ q ≤ 4294967296 * 2 ^ 31 := Nat.mul_le_mul (by omega) h1
    omega
   have hov : (limbs l)[((W : Int) + (i : Int)).toNat]? = some (.int .u32 (o : Int)) := by rw [show ((W : Int) + (i : Int)).toNat = W + i by omega]; exact limbs_at Ho.out
   have hll : l.length = W + a.length + 1 := Hll.out
   have hW1 : W + i + 1 < l.length := by omega
   have hW2 : W ≤ 64000000 := by have := HS.out; omega
   clear hll
   have hqB : 2 ^ q ≤ 2147483648 := Nat.pow_le_pow_right (show 0 < 2 by decide) (show q ≤ 31 by omega)
   have E1 : Hid (IntKind.u64.wrap ((x : Int) * 2 ^ q) = ((x * 2 ^ q : Nat) : Int)) := hid (wrapN _ (by rw [Int.natCast_mul, Int.natCast_pow]; rfl) ht64)
   have E2 : Hid (bits BinOp.or IntKind.u32 (o : Int) ((x * 2 ^ q % 4294967296 : Nat) : Int) = ((x * 2 ^ q % 4294967296 + o : Nat) : Int)) := hid (by
    rw [bits_or_u32_nat _ _ (by omega) (Nat.mod_lt _ (by decide)), Nat.or_comm, up_or hq32 hxB ho])
   have E3 := hid (low_nat ht64)
   have Hs1 := hid (up_sum hq32 hxB ho)
   have Ht1 := hid (up_high (p := q) hxB)
   have H64 := hid ht64
   clear ht64
   go_wp2_with (first | refine x_q H ?_ | refine x_e (ev_high rfl rfl) ?_ | (revert H; refine x_s ?_; intro w1 hf H; (try clear hf)))
   have E4 : ((x * 2 ^ q : Nat) : Int) / 4294967296 % 4294967296 = ((x * 2 ^ q / 4294967296 : Nat) : Int) := by
    have := Ht1.out
    have := hqB
    omega
   rw [E1.out, E3.out, E2.out, E4, show ((W : Int) + (i : Int)).toNat = W + i by omega, show ((W : Int) + (i : Int) + 1).toNat = W + i + 1 by omega, limbs_set, limbs_set] at H
   go_roundw
   case rel => exact ⟨i + 1, x * 2 ^ q / 4294967296, (l.set (W + i) (x * 2 ^ q % 4294967296 + o)).set (W + i + 1) (x * 2 ^ q / 4294967296), by omega, by go_num, Ht1.out, hid (by rw [List.length_set, List.length_set]; exact Hll.out), hid ((Hlim.out.set _ Hs1.out).set _ (by have := Ht1.out; omega)), hid (by rw [up_round Ho.out (Hz.out _ (by omega) (by omega)) Hv.out, val_take_succ Hx.out]; exact up_alg ..), hid (by rw [show W + (i + 1) = W + i + 1 by omega, List.getElem?_set_self (by rw [List.length_set]; exact hW1)]), hid (fun k hk1 hk2 => by rw [List.getElem?_set_ne (by omega), List.getElem?_set_ne (by omega)]; exact Hz.out k (by omega) hk2), H.sub (by repeat first | exact List.Sublist.refl _ | exact List.nil_sublist _ | apply List.Sublist.cons_cons | apply List.Sublist.cons)⟩
   case measure => (simp [intOf]; try omega)
  ·have e : i = a.length := by omega
   have HV : Hid (val l = val a * 2 ^ s) := hid (by
    rw [Hv.out, e, List.take_of_length_le (Nat.le_refl _), HS.out, Nat.pow_add, powB, Nat.mul_comm (val a), Nat.mul_assoc])
   clear e
   have hll : l.length = W + a.length + 1 := Hll.out
   have hW2 : W ≤ 64000000 := by have := HS.out; omega
   go_wp2_with (refine x_q H ?_)
   have hL : LR _ (some ⟨g, 0, none⟩) (W + a.length + 1) l := LR.of_blk (pad := []) (by rw [List.append_nil]; exact H.at g) Hlim.out (by omega) (by unfold maxLen; omega)
   have HL := hid hL
   refine Calls.mono (trim_any l hll HL.out) ?_
   rintro e w1 ⟨rfl, hF⟩
   have HL2 := hid (hL.fr hF).trim
   have H1 := H.step hF (by simp)
   clear H hF hL HL
   have H := H1
   clear H1
   go_wp2_with fail
   go_ret
   rw [HV.out] at HL2
   exact ⟨_, _, by rw [HV.out]; rfl, H.fr, HL2.out⟩
theorem nz_any (w : World) (x : Nat) : Calls Tryz.prog 182 #[.int .u32 (x : Int)] w fun e w' => e = .returned (.bool (decide (x ≠ 0))) ∧ Fr [] w w' := by
 have H := Hp.start [] w
 by_cases h0 : x = 0
 ·have h0' : (x : Int) ≤ 0 := by omega
  have h1 : 0 ≤ (x : Int) := by omega
  have Hd := hid (decide_eq_false (p := x ≠ 0) (by omega))
  clear h0
  go_enter Tryz.func182, Tryz.ntmps182
  go_wp2_with (refine x_q H ?_)
  go_ret
  exact ⟨by rw [Hd.out]; rfl, H.fr⟩
 ·have h1 : 0 < (x : Int) := by omega
  have Hd := hid (decide_eq_true (p := x ≠ 0) h0)
  clear h0
  go_enter Tryz.func182, Tryz.ntmps182
  go_wp2_with (refine x_q H ?_)
  go_ret
  exact ⟨by rw [Hd.out]; rfl, H.fr⟩
theorem indexNz_any {w : World} {p : Option Addr} {n c : Nat} (l : List Nat) (hl : l.length = n) (h : LR w p c l) :
  Calls Tryz.prog 210 #[.slice p n c, .func (.func 182) #[] #[]] w fun e w' => ∃ z : Int, e = .returned (.int .i64 z) ∧ (0 ≤ z ↔ val l ≠ 0) ∧ Fr [] w w' := by
 subst hl
 obtain ⟨hlc, hc⟩ := h.clen
 have Hh := hid h
 clear h
 have H := Hp.start [] w
 go_enter Tryz.func210, Tryz.ntmps210
 go_wp2_with fail
 go_loopw [8] (fun s8 wr => ∃ i : Nat, i ≤ l.length ∧ s8 = .int .i64 (i : Int) ∧ Hid (val (l.take i) = 0) ∧ Hp [] w wr []) (fun v _ => l.length - (intOf v).toNat)
 case atStart => exact ⟨0, Nat.zero_le _, rfl, hid rfl, H⟩
 case round =>
  clear H
  obtain ⟨i, hi, rfl, hv, H⟩ := hrel
  by_cases hin : i < l.length
  ·obtain ⟨x, hx⟩ : ∃ x, l[i]? = some x := ⟨_, List.getElem?_eq_getElem hin⟩
   have hxv := limbs_at hx
   have Hx := hid hx
   clear hx
   obtain ⟨b0, off, rfl, hb0, hcell⟩ := Hh.out.rd.rng (limbs_ne (i := i) hin)
   have H1 := H.pushRng (b := b0) (off := off) hb0 (by simp) hcell
   clear H hcell
   have H := H1
   clear H1
   by_cases h0 : x = 0
   ·have Hd := hid (decide_eq_false (p := x ≠ 0) (by omega))
    have HV : Hid (val (l.take (i + 1)) = 0) := hid (by rw [val_take_succ Hx.out, hv.out, h0]; simp)
    clear h0
    go_wp2_with (refine x_q H ?_)
    (refine x_c H (nz_any _ x) ?_; clear H; rintro e w1 ⟨rfl, hF⟩ H)
    rw [Hd.out]
    go_wp2_with fail
    go_roundw
    case rel => exact ⟨i + 1, by omega, by go_num, HV, H.sub (by repeat first | exact List.Sublist.refl _ | exact List.nil_sublist _ | apply List.Sublist.cons_cons | apply List.Sublist.cons)⟩
    case measure => (simp [intOf]; try omega)
   ·have Hd := hid (decide_eq_true (p := x ≠ 0) h0)
    have HV : Hid (val l ≠ 0) := hid (fun e => h0 (by
     have := digit_of Hh.out.lim Hx.out
     rw [e] at this
     simpa using this.symm))
    clear h0
    go_wp2_with (refine x_q H ?_)
    (refine x_c H (nz_any _ x) ?_; clear H; rintro e w1 ⟨rfl, hF⟩ H)
    rw [Hd.out]
    go_wp2_with fail
    go_ret
    exact ⟨(i : Int), rfl, ⟨fun _ => HV.out, fun _ => by omega⟩, H.fr⟩
  ·have HV : Hid (val l = 0) := hid (by rw [← hv.out, List.take_of_length_le (by omega)])
   go_wp2_with (refine x_q H ?_)
   go_ret
   exact ⟨-1, rfl, ⟨fun h => absurd h (by decide), fun h => absurd HV.out h⟩, H.fr⟩
theorem containsNz_any {w : World} {p : Option Addr} {n c : Nat} (l : List Nat) (hl : l.length = n) (h : LR w p c l) :
  Calls Tryz.prog 181 #[.slice p n c, .func (.func 182) #[] #[]] w fun e w' => e = .returned (.bool (decide (val l ≠ 0))) ∧ Fr [] w w' := by
 have Hh := hid h
 have Hl := hid hl
 clear h hl
 have H := Hp.start [] w
 by_cases h0 : val l = 0
 ·have Hd := hid (decide_eq_false (p := val l ≠ 0) (by omega))
  have H0 := hid h0
  clear h0
  go_enter Tryz.func181, Tryz.ntmps181
  go_wp2_with fail
  refine Calls.mono (indexNz_any l Hl.out (Hh.out.fr H.fr)) ?_
  rintro e w1 ⟨z, rfl, hz, hF⟩
  have H1 := H.step hF (by simp)
  clear H
  have H := H1
  clear H1
  have hz1 : z < 0 := by
   apply Classical.byContradiction
   intro hn
   exact hz.1 (by omega) H0.out
  clear hz
  go_wp2_with (refine x_q H ?_)
  go_ret
  exact ⟨by rw [Hd.out]; rfl, H.fr⟩
 ·have Hd := hid (decide_eq_true (p := val l ≠ 0) h0)
  have H0 := hid h0
  clear h0
  go_enter Tryz.func181, Tryz.ntmps181
  go_wp2_with fail
  refine Calls.mono (indexNz_any l Hl.out (Hh.out.fr H.fr)) ?_
  rintro e w1 ⟨z, rfl, hz, hF⟩
  have H1 := H.step hF (by simp)
  clear H
  have H := H1
  clear H1
  have hz1 : 0 ≤ z := hz.2 H0.out
  clear hz
  go_wp2_with (refine x_q H ?_)
  go_ret
  exact ⟨by rw [Hd.out]; rfl, H.fr⟩
theorem ev_orK {P : Program} {w : World} {a : Act} {o : Oper} {t t' : TypeId} {x y : Operand} (ho : o.op = .binOp .or t x y t') {m n : Int} (hx : a.eval x = .int .u64 m) (hy : a.eval y = .int .u64 n) (h0 : 0 ≤ n := by omega) (h1 : n < 18446744073709551616 := by omega) (hm : n % 4294967296 = 0 := by omega) (h2 : 0 ≤ m := by omega) (h3 : m < 4294967296 := by omega) : (execOp a.eval o).run P w = .ok (.value (.int .u64 (m + n))) w :=
 ev_bin ho hx hy (fun w => by
  have e := bits_join .u64 64 (by decide) (fun n h0 h1 => wrap_inr (by simp only [inr]; omega)) 32 n m h0 (by omega) (by omega) h2 (by omega) (by omega)
  have e2 : bits .or .u64 m n = bits .or .u64 n m := by
   show IntKind.u64.wrap _ = IntKind.u64.wrap _
   rw [BitVec.or_comm]
  show (pure (Value.int .u64 (bits .or .u64 m n)) : Sem Value).run P w = _
  rw [e2, e, Int.add_comm]; rfl)
theorem down_dig {l : List Nat} (h : Lim l) {W q i Z : Nat} (hq : q < 32) (hz : val (l.drop (W + i)) % 18446744073709551616 = Z) : val l / (4294967296 ^ W * 2 ^ q) / 4294967296 ^ i % 4294967296 = Z / 2 ^ q % 4294967296 := by
 rw [Nat.div_div_eq_div_mul, Nat.mul_assoc, Nat.mul_comm (2 ^ q), ← Nat.mul_assoc, ← Nat.pow_add, ← Nat.div_div_eq_div_mul, drop_div h, down_limb hq, hz]
theorem drop_two {l : List Nat} (h : Lim l) {k x y : Nat} (hx : l[k]? = some x) (hy : l[k + 1]? = some y) : val (l.drop k) % 18446744073709551616 = x + y * 4294967296 := by
 have h1 := h.at hx
 have h2 := h.at hy
 rw [drop_cons_at hx, drop_cons_at hy]
 simp only [val]
 omega
theorem drop_one {l : List Nat} (h : Lim l) {k x : Nat} (hx : l[k]? = some x) (hk : l.length ≤ k + 1) : val (l.drop k) % 18446744073709551616 = x := by
 have h1 := h.at hx
 rw [drop_cons_at hx, List.drop_eq_nil_of_le hk]
 simp only [val]
 omega
theorem word_two {x y : Nat} (hx : x < 4294967296) (hy : y < 4294967296) (q : Nat) : bits BinOp.and IntKind.u64 (((x : Int) + (y : Int) * 4294967296) / 2 ^ q) 4294967295 % 4294967296 = (((x + y * 4294967296) / 2 ^ q % 4294967296 : Nat) : Int) := by
 have e : ((x : Int) + (y : Int) * 4294967296) / 2 ^ q = (((x + y * 4294967296) / 2 ^ q : Nat) : Int) := by
  rw [Int.natCast_ediv, Int.natCast_pow]; congr 1
 have h : (x + y * 4294967296) / 2 ^ q ≤ x + y * 4294967296 := Nat.div_le_self _ _
 rw [e, low_nat (by omega)]
theorem word_one {x : Nat} (hx : x < 4294967296) (q : Nat) : bits BinOp.and IntKind.u64 ((x : Int) / 2 ^ q) 4294967295 % 4294967296 = ((x / 2 ^ q % 4294967296 : Nat) : Int) := by
 have e : (x : Int) / 2 ^ q = ((x / 2 ^ q : Nat) : Int) := by
  rw [Int.natCast_ediv, Int.natCast_pow]; congr 1
 have h : x / 2 ^ q ≤ x := Nat.div_le_self _ _
 rw [e, low_nat (by omega)]
theorem set_upto {o : List Nat} {i v : Nat} {f : Nat → Nat} (hi : i < o.length) (h : ∀ j y, j < i → o[j]? = some y → y = f j) (hv : f i = v) : ∀ j y, j < i + 1 → (o.set i v)[j]? = some y → y = f j := by
 intro j y hj hy
 by_cases e : j = i
 ·subst e
  rw [List.getElem?_set_self hi] at hy
  injection hy with hy
  rw [← hy, hv]
 ·rw [List.getElem?_set_ne (by omega)] at hy
  exact h j y (by omega) hy
theorem down_mod {l : List Nat} (h : Lim l) {W x q : Nat} (hx : l[W]? = some x) (hq : q < 32) : val l % (4294967296 ^ W * 2 ^ q) = val (l.take W) + 4294967296 ^ W * (x % 2 ^ q) := by
 rw [Nat.mod_mul, take_mod h, drop_div h, drop_cons_at hx]
 obtain ⟨r, hr⟩ := pow2_split hq
 simp only [val]
 rw [hr, Nat.mul_assoc, Nat.add_mul_mod_self_left]
theorem and_mask {x q : Nat} (hx : x < 4294967296) (hq : q < 32) : bits BinOp.and IntKind.u32 (x : Int) ((2 ^ q - 1) % 4294967296) = ((x % 2 ^ q : Nat) : Int) := by
 have h1 : 2 ^ q ≤ 2 ^ 31 := Nat.pow_le_pow_right (by decide) (by omega)
 have h2 : 0 < 2 ^ q := Nat.two_pow_pos q
 have e : ((2 : Int) ^ q - 1) % 4294967296 = ((2 ^ q - 1 : Nat) : Int) := by
  have e1 : (2 : Int) ^ q = ((2 ^ q : Nat) : Int) := by rw [Int.natCast_pow]; rfl
  rw [e1]; omega
 rw [e, bits_and_u32_nat _ _ hx (by omega), Nat.and_two_pow_sub_one_eq_mod]
set_option maxHeartbeats 8000000 in
theorem down_any {w : World} {p : Option Addr} {n c : Nat} (A : Nat) (s : Nat) (hn : (digs A).length = n) (hn0 : n ≤ 2000000) (hs : s ≤ 128000000) (h : LR w p c (digs A)) :
  Calls Tryz.prog 141 #[.slice p n c, .int .i64 (s : Int)] w fun e w' => ∃ p' c', e = .returned (.tuple #[.slice p' (digs (A / 2 ^ s)).length c', .bool (decide (A % 2 ^ s ≠ 0))]) ∧ Fr [] w w' ∧ LR w' p' c' (digs (A / 2 ^ s)) := by
 obtain ⟨hlc, hc⟩ := h.clen
 generalize hl : digs A = l at *
 have Hl := hid hl
 subst hn
 have Hh := hid h
 have H := Hp.start [] w
 obtain ⟨W, hW⟩ : ∃ W, s / 32 = W := ⟨_, rfl⟩
 obtain ⟨q, hq⟩ : ∃ q, s % 32 = q := ⟨_, rfl⟩
 have hq32 : q < 32 := by omega
 have HS : Hid (s = 32 * W + q) := hid (by omega)
 have HW : Hid ((s : Int) / 32 = (W : Int)) := hid (by omega)
 have HQ : Hid ((s : Int) % 32 = (q : Int)) := hid (by omega)
 have HP : Hid (2 ^ s = 4294967296 ^ W * 2 ^ q) := hid (by rw [HS.out, Nat.pow_add, powB])
 have hVA : val l = A := by rw [← hl, val_digs]
 have HVA := hid hVA
 have hAlt : A < 4294967296 ^ l.length := by rw [← hVA]; exact val_lt h.lim
 have HAlt := hid hAlt
 clear hW hq hl h hVA hAlt
 by_cases hov : l.length ≤ W
 ·have HZ : Hid (A / 2 ^ s = 0 ∧ A % 2 ^ s = A) := hid (by
   have h1 : 4294967296 ^ l.length ≤ 4294967296 ^ W := Nat.pow_le_pow_right (by decide) hov
   have h2 : 4294967296 ^ W ≤ 2 ^ s := by rw [HP.out]; exact Nat.le_mul_of_pos_right _ (Nat.two_pow_pos q)
   have h3 : A < 2 ^ s := by have := HAlt.out; omega
   exact ⟨Nat.div_eq_of_lt h3, Nat.mod_eq_of_lt h3⟩)
  have hWs : (l.length : Int) ≤ (s : Int) / 32 := by have := HW.out; omega
  by_cases h0 : l.length ≤ 0
  ·have HD : Hid (decide (A % 2 ^ s ≠ 0) = false) := hid (decide_eq_false (by
    rw [HZ.out.2]
    have h1 := HAlt.out
    rw [show l.length = 0 by omega] at h1
    simp at h1
    omega))
   go_enter Tryz.func141, Tryz.ntmps141
   go_wp2_with (refine x_q H ?_)
   refine bodyPost_ret (results_tmp2 rfl _ _ _) rfl ?_
   rw [HZ.out.1, HD.out, digs_zero]
   exact ⟨none, 0, rfl, H.fr, LR.zero _⟩
  ·have hpos : 0 < l.length := by omega
   have HD : Hid (decide (A % 2 ^ s ≠ 0) = true) := hid (decide_eq_true (by
    rw [HZ.out.2]
    intro e
    have h1 := Hl.out
    rw [e, digs_zero] at h1
    rw [← h1] at hpos
    simp at hpos))
   clear h0
   go_enter Tryz.func141, Tryz.ntmps141
   go_wp2_with (refine x_q H ?_)
   refine bodyPost_ret (results_tmp2 rfl _ _ _) rfl ?_
   rw [HZ.out.1, HD.out, digs_zero]
   exact ⟨none, 0, rfl, H.fr, LR.zero _⟩
 ·have hWl : W < l.length := by omega
  have hWs : (s : Int) / 32 < (l.length : Int) := by have := HW.out; omega
  clear hov
  have HT := hid (Hh.out.pre (n := W) (by omega))
  have htl : (l.take W).length = W := by rw [List.length_take]; omega
  have Htl := hid htl
  clear htl
  obtain ⟨x, hx⟩ : ∃ x, l[W]? = some x := ⟨_, List.getElem?_eq_getElem hWl⟩
  have hxv := limbs_at hx
  have hxB := Hh.out.lim.at hx
  have Hx := hid hx
  clear hx
  obtain ⟨b0, off, rfl, hb0, hcell⟩ := Hh.out.rd.rng (limbs_ne (i := W) hWl)
  have H1 := H.pushRng (b := b0) (off := off) hb0 (by simp) hcell
  clear H hcell
  have H := H1
  clear H1
  go_enter Tryz.func141, Tryz.ntmps141
  go_upto_region 4 with (first | refine x_q H ?_ | refine x_cm (fun h => ?_) (fun h => ?_) | (revert H; (first | (refine x_g ?_; intro g w1 hg hf H) | (refine x_s ?_; intro w1 hf H)); (try clear hf)))
  rw [HW.out, HQ.out]
  clear hWs
  have HF : Hid (A % 2 ^ s = val (l.take W) + 4294967296 ^ W * (x % 2 ^ q)) := hid (by
   rw [HP.out, ← HVA.out]; exact down_mod Hh.out.lim Hx.out hq32)
  have HB : Hid (bits BinOp.and IntKind.u32 (x : Int) ((2 ^ q - 1) % 4294967296) = ((x % 2 ^ q : Nat) : Int)) := hid (and_mask hxB hq32)
  go_cut [8] (fun s8 wx => s8 = .bool (decide (A % 2 ^ s ≠ 0)) ∧ Hp [] w wx [])
  case first =>
   by_cases hz : val (l.take W) = 0
   ·have HD := hid (decide_eq_false (p := val (l.take W) ≠ 0) (by omega))
    have HZ1 : Hid (bits BinOp.and IntKind.u32 (x : Int) ((2 ^ q - 1) % 4294967296) ≠ 0 → decide (A % 2 ^ s ≠ 0) = true) := hid (fun h => decide_eq_true (by
     rw [HB.out] at h
     rw [HF.out, hz, Nat.zero_add]
     intro e
     rcases Nat.mul_eq_zero.1 e with e | e
     ·exact absurd e (Nat.ne_of_gt (Nat.pow_pos (by decide)))
     ·rw [e] at h; exact h rfl))
    have HZ2 : Hid (¬ bits BinOp.and IntKind.u32 (x : Int) ((2 ^ q - 1) % 4294967296) ≠ 0 → decide (A % 2 ^ s ≠ 0) = false) := hid (fun h => decide_eq_false (by
     rw [HB.out] at h
     rw [HF.out, hz, Nat.zero_add]
     have : x % 2 ^ q = 0 := by omega
     rw [this]
     simp))
    clear hz
    go_wp2_with (refine x_q H ?_)
    (refine x_c H (containsNz_any (l.take W) (by rw [Htl.out]) (by simpa using HT.out.fr H.fr)) ?_; clear H; rintro e w1 ⟨rfl, hF⟩ H)
    rw [HD.out]
    go_wp2_with (first | refine x_q H ?_ | refine x_cm (fun h => ?_) (fun h => ?_))
    ·go_meet
     case rel => exact ⟨by rw [HZ1.out (by assumption)], H.sub (by repeat first | exact List.Sublist.refl _ | exact List.nil_sublist _ | apply List.Sublist.cons_cons | apply List.Sublist.cons)⟩
    ·go_meet
     case rel => exact ⟨by rw [HZ2.out (by assumption)], H.sub (by repeat first | exact List.Sublist.refl _ | exact List.nil_sublist _ | apply List.Sublist.cons_cons | apply List.Sublist.cons)⟩
   ·have HD := hid (decide_eq_true (p := val (l.take W) ≠ 0) hz)
    have Hz : Hid (decide (A % 2 ^ s ≠ 0) = true) := hid (decide_eq_true (by rw [HF.out]; omega))
    clear hz
    go_wp2_with (refine x_q H ?_)
    (refine x_c H (containsNz_any (l.take W) (by rw [Htl.out]) (by simpa using HT.out.fr H.fr)) ?_; clear H; rintro e w1 ⟨rfl, hF⟩ H)
    rw [HD.out]
    go_wp2_with fail
    go_meet
    case rel => exact ⟨by rw [Hz.out], H.sub (by repeat first | exact List.Sublist.refl _ | exact List.nil_sublist _ | apply List.Sublist.cons_cons | apply List.Sublist.cons)⟩
  case rest =>
   clear H hxv hb0
   obtain ⟨rfl, H⟩ := hcut
   generalize hst : decide (A % 2 ^ s ≠ 0) = sticky at H ⊢
   have Hst := hid hst
   clear hst
   go_wp2_with (revert H; refine x_g ?_; intro g w1 hg hf H; (try clear hf))
   rw [show ((l.length : Int) - (W : Int)).toNat = l.length - W by omega, zeros_limbs] at H
   rw [show ((l.length : Int) - (W : Int)).toNat = l.length - W by omega]
   go_loopw [46] (fun s46 wr => ∃ (i : Nat) (o : List Nat), i ≤ l.length - W ∧ s46 = .int .i64 (i : Int) ∧ Hid (o.length = l.length - W) ∧ Hid (Lim o) ∧ Hid (∀ j y, j < i → o[j]? = some y → y = A / 2 ^ s / 4294967296 ^ j % 4294967296) ∧ Hp [] w wr [.blk g (limbs o) 99]) (fun v _ => (l.length - W) - (intOf v).toNat)
   case atStart => exact ⟨0, List.replicate (l.length - W) 0, Nat.zero_le _, rfl, hid List.length_replicate, hid (Lim.zeros _), hid (fun j y hj => absurd hj (Nat.not_lt_zero _)), H⟩
   case round =>
    clear H
    obtain ⟨i, o, hi, rfl, Hol, Hlo, Hv, H⟩ := hrel
    by_cases hin : i < l.length - W
    ·obtain ⟨x1, hx1⟩ : ∃ x1, l[W + i]? = some x1 := ⟨_, List.getElem?_eq_getElem (by omega)⟩
     have hx1v : (limbs l)[((W : Int) + (i : Int)).toNat]? = some (.int .u32 (x1 : Int)) := by rw [show ((W : Int) + (i : Int)).toNat = W + i by omega]; exact limbs_at hx1
     have hx1B := Hh.out.lim.at hx1
     have Hx1 := hid hx1
     clear hx1
     obtain ⟨b1, off1, he1, hb1, hcell1⟩ := Hh.out.rd.rng (limbs_ne (i := W + i) (by omega))
     injection he1 with he1
     injection he1 with he1 he2 _
     subst he1 he2
     have H1 := H.pushRng (b := b0) (off := off) hb1 (by simp) hcell1
     clear H hcell1
     have H := H1
     clear H1
     have hio : i < o.length := by rw [Hol.out]; omega
     by_cases hnext : W + i + 1 < l.length
     ·obtain ⟨y, hy⟩ : ∃ y, l[W + i + 1]? = some y := ⟨_, List.getElem?_eq_getElem hnext⟩
      have hyv : (limbs l)[((W : Int) + (i : Int) + 1).toNat]? = some (.int .u32 (y : Int)) := by rw [show ((W : Int) + (i : Int) + 1).toNat = W + i + 1 by omega]; exact limbs_at hy
      have hyB := Hh.out.lim.at hy
      have Hy := hid hy
      clear hy
      go_wp2_with (first | refine x_q H ?_ | refine x_e (ev_over rfl rfl) ?_ | refine x_e (ev_orK rfl rfl rfl) ?_ | (revert H; refine x_s ?_; intro w1 hf H; (try clear hf)))
      rw [word_two hx1B hyB q, limbs_set] at H
      go_roundw
      case rel => exact ⟨i + 1, o.set i ((x1 + y * 4294967296) / 2 ^ q % 4294967296), by omega, by go_num, hid (by rw [List.length_set]; exact Hol.out), hid (Hlo.out.set _ (Nat.mod_lt _ (by decide))), hid (set_upto hio Hv.out (by rw [HP.out, ← HVA.out, down_dig Hh.out.lim hq32 (drop_two Hh.out.lim Hx1.out Hy.out)])), H.sub (by repeat first | exact List.Sublist.refl _ | exact List.nil_sublist _ | apply List.Sublist.cons_cons | apply List.Sublist.cons)⟩
      case measure => (simp [intOf]; try omega)
     ·go_wp2_with (first | refine x_q H ?_ | (revert H; refine x_s ?_; intro w1 hf H; (try clear hf)))
      rw [word_one hx1B q, limbs_set] at H
      go_roundw
      case rel => exact ⟨i + 1, o.set i (x1 / 2 ^ q % 4294967296), by omega, by go_num, hid (by rw [List.length_set]; exact Hol.out), hid (Hlo.out.set _ (Nat.mod_lt _ (by decide))), hid (set_upto hio Hv.out (by rw [HP.out, ← HVA.out, down_dig Hh.out.lim hq32 (drop_one Hh.out.lim Hx1.out (by omega))])), H.sub (by repeat first | exact List.Sublist.refl _ | exact List.nil_sublist _ | apply List.Sublist.cons_cons | apply List.Sublist.cons)⟩
      case measure => (simp [intOf]; try omega)
    ·have HV : Hid (val o = A / 2 ^ s) := hid (by
      rw [digits_val (N := A / 2 ^ s) (fun j y hj => Hv.out j y (by have := (List.getElem?_eq_some_iff.1 hj).1; rw [Hol.out] at this; omega) hj), Hol.out]
      apply Nat.mod_eq_of_lt
      have h1 := HAlt.out
      rw [show l.length = W + (l.length - W) by omega, Nat.pow_add] at h1
      rw [HP.out, ← Nat.div_div_eq_div_mul]
      exact Nat.lt_of_le_of_lt (Nat.div_le_self _ _) (Nat.div_lt_of_lt_mul h1))
     go_wp2_with (refine x_q H ?_)
     have hL : LR _ (some ⟨g, 0, none⟩) (l.length - W) o := LR.of_blk (pad := []) (by rw [List.append_nil]; exact H.at g) Hlo.out (by rw [Hol.out]; exact Nat.le_refl _) (by unfold maxLen; omega)
     have HL := hid hL
     refine Calls.mono (trim_any o Hol.out HL.out) ?_
     rintro e w1 ⟨rfl, hF⟩
     have HL2 := hid (hL.fr hF).trim
     have H1 := H.step hF (by simp)
     clear H hF hL HL
     have H := H1
     clear H1
     go_wp2_with fail
     refine bodyPost_ret (results_tmp2 rfl _ _ _) rfl ?_
     rw [HV.out] at HL2
     exact ⟨_, _, by rw [HV.out, Hst.out]; rfl, H.fr, HL2.out⟩
end Go.Proofs.YthbeeeclgbpopaaGreatDoor
