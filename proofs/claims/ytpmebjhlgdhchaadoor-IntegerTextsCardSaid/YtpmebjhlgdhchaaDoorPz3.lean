/-
  Numerals: digits, their value, what a text says (plain).
-/
import Derived.Test.YtpmebjhlgdhchaaDoorSh3
import Derived.Test.YtpmebjhlgdhchaaDoorIw34
import Derived.Test.YtpmebjhlgdhchaaDoorIw28
import Derived.Lib.AtoiErrMem
import Derived.Deep.LoopGhost
import Derived.Test.YtpmebjhlgdhchaaDoorIz7
namespace Go.Proofs.YtpmebjhlgdhchaaDoor
open Go.RowKit
set_option linter.unusedSimpArgs false
set_option linter.unusedVariables false
def dig (b : UInt8) : Bool := 48 ≤ b.toNat && b.toNat ≤ 57
def notDig (x : Nat) : Bool := decide (x < 48) || decide (57 < x)
def numS (a : Nat) (b : UInt8) : Nat := a * 10 + (b.toNat - 48)
def numF (a : Nat) (l : List UInt8) : Nat := l.foldl numS a
def num (l : List UInt8) : Nat := numF 0 l
theorem numF_nil (a : Nat) : numF a [] = a := rfl
theorem numF_cons (a : Nat) (b : UInt8) (r : List UInt8) : numF a (b :: r) = numF (numS a b) r := by unfold numF; rw [List.foldl_cons]
theorem numF_eq (l : List UInt8) : ∀ a : Nat, numF a l = a * 10 ^ l.length + numF 0 l := by
  induction l with
  | nil =>
    intro a
    show a = a * 1 + 0
    omega
  | cons b r ih =>
    intro a
    have h1 := ih (numS a b)
    have h2 := ih (numS 0 b)
    have e1 : numS a b = a * 10 + numS 0 b := by unfold numS; omega
    have e2 : a * 10 * 10 ^ r.length = a * 10 ^ (r.length + 1) := by rw [Nat.pow_succ, Nat.mul_assoc, Nat.mul_comm 10]
    rw [e1, Nat.add_mul, e2] at h1
    rw [numF_cons, numF_cons, List.length_cons, e1, h1, Nat.add_assoc, h2]
theorem numF_app (l m : List UInt8) (a : Nat) : numF a (l ++ m) = numF (numF a l) m := List.foldl_append
theorem num_app (l m : List UInt8) : num (l ++ m) = num l * 10 ^ m.length + num m := by
  unfold num
  rw [numF_app, numF_eq m]
theorem dig_le {b : UInt8} (h : dig b = true) : 48 ≤ b.toNat ∧ b.toNat ≤ 57 := by unfold dig at h; simpa using h
theorem num_one (b : UInt8) : num [b] = b.toNat - 48 := by
  show numS 0 b = _
  unfold numS
  omega
theorem num_lt : ∀ (l : List UInt8), l.all dig = true → num l < 10 ^ l.length
  | [], _ => Nat.one_pos
  | b :: r, h => by
    rw [List.all_cons, Bool.and_eq_true] at h
    have h1 := dig_le h.1
    have h2 := num_lt r h.2
    rw [show b :: r = [b] ++ r from rfl, num_app, num_one, List.length_append, List.length_cons, List.length_nil, Nat.pow_add, Nat.zero_add, Nat.pow_one]
    have h3 : (b.toNat - 48) * 10 ^ r.length ≤ 9 * 10 ^ r.length := Nat.mul_le_mul_right _ (by omega)
    omega
theorem decFrom_num : ∀ (l : List UInt8) (a : Nat), l.all dig = true → Lib.decFrom a l = some (numF a l)
  | [], a, _ => rfl
  | b :: r, a, h => by
    rw [List.all_cons, Bool.and_eq_true] at h
    have h1 := dig_le h.1
    rw [Lib.decFrom, Lib.digitVal, if_pos h1]
    exact decFrom_num r _ h.2
theorem atoi_num {l : List UInt8} (h : l.all dig = true) (hn : l ≠ []) : Lib.atoi l = some (num l : Int) := by
  cases l with
  | nil => exact absurd rfl hn
  | cons b r =>
    have h0 := h
    rw [List.all_cons, Bool.and_eq_true] at h
    have h1 := dig_le h.1
    have e1 : (b == 45) = false := by
      rw [beq_eq_false_iff_ne]
      intro e
      subst e
      have h2 := h1.1
      simp at h2
    have e2 : (b == 43) = false := by
      rw [beq_eq_false_iff_ne]
      intro e
      subst e
      have h2 := h1.1
      simp at h2
    rw [Lib.atoi, e1, e2]
    simp only [Bool.false_eq_true, if_false, Lib.decNat, List.isEmpty_cons, decFrom_num _ 0 h0, Option.map_some]
    rfl
/-! Runes -/
theorem decode_low {s : ByteArray} {i : Nat} (h : (s.get! i).toNat < 128) : Utf8.decode s i = ((s.get! i).toNat, 1) := by
  unfold Utf8.decode
  simp only [Nat.add_zero]
  rw [if_pos h]
theorem decode_high {s : ByteArray} {i : Nat} (h : ¬ (s.get! i).toNat < 128) : 57 < (Utf8.decode s i).1 := by
  unfold Utf8.decode
  simp only [Nat.add_zero]
  rw [if_neg h]
  have hr : 57 < Utf8.runeError := by decide
  repeat' split
  all_goals first | exact hr | (simp only; omega) | skip
  all_goals
    rename_i hc
    simp only [Bool.and_eq_true, decide_eq_true_eq, ge_iff_le] at hc
    simp only
    omega
theorem get_list (s : List UInt8) (i : Nat) (b : UInt8) (h : s[i]? = some b) : (ByteArray.mk s.toArray).get! i = b := by
  obtain ⟨h1, e⟩ := List.getElem?_eq_some_iff.1 h
  show (s.toArray)[i]! = b
  simp [h1, e]
theorem idx_from (s : List UInt8) : ∀ (f pos : Nat), s.length ≤ pos + f → decide (0 ≤ Lib.idxFuncFrom notDig true ⟨s.toArray⟩ f pos) = !((s.drop pos).all dig)
  | 0, pos, hf => by
    rw [List.drop_eq_nil_of_le (by omega)]
    rfl
  | f + 1, pos, hf => by
    have hsz : (ByteArray.mk s.toArray).size = s.length := by simp [ByteArray.size]
    rw [Lib.idxFuncFrom]
    by_cases hp : pos < s.length
    · rw [if_pos (by rw [hsz]; exact hp)]
      have hg := get_list s pos s[pos] (List.getElem?_eq_getElem hp)
      rw [List.drop_eq_getElem_cons hp, List.all_cons]
      by_cases hd : dig s[pos] = true
      · have h1 := dig_le hd
        have hl : ((ByteArray.mk s.toArray).get! pos).toNat < 128 := by rw [hg]; omega
        rw [decode_low hl, hg, hd, Bool.true_and]
        have hn : notDig s[pos].toNat = false := by unfold notDig; simp; omega
        rw [hn, if_neg (by decide)]
        exact idx_from s f (pos + 1) (by omega)
      · have hn : notDig (Utf8.decode ⟨s.toArray⟩ pos).1 = true := by
          by_cases hl : ((ByteArray.mk s.toArray).get! pos).toNat < 128
          · rw [decode_low hl, hg]
            unfold dig at hd
            unfold notDig
            simp at hd ⊢
            omega
          · have := decode_high hl
            unfold notDig
            simp
            omega
        rw [hn, if_pos rfl]
        have hf : dig s[pos] = false := by simpa using hd
        rw [hf]
        simp
    · rw [if_neg (by rw [hsz]; exact hp), List.drop_eq_nil_of_le (by omega)]
      rfl
theorem idx_digits (s : List UInt8) : decide (0 ≤ Lib.idxFunc notDig true ⟨s.toArray⟩) = !(s.all dig) := by
  have h := idx_from s s.length 0 (by omega)
  rw [List.drop_zero] at h
  have hsz : (ByteArray.mk s.toArray).size = s.length := by simp [ByteArray.size]
  unfold Lib.idxFunc
  rw [hsz]
  exact h
/-! What a text says: the number and the error. -/
def sgn (s : List UInt8) : Bool := s.head? == some 45
def body (s : List UInt8) : List UInt8 := if s.head? = some 45 ∨ s.head? = some 43 then s.tail else s
def pz (s : List UInt8) : Int × Int :=
  if 1024 < s.length then (0, 2)
  else if body s = [] ∨ (body s).all dig = false then (0, 7)
  else (sg (sgn s) (num (body s)), 0)
/-! Numerals are read back. -/
theorem dec_digits (n : Nat) : (dec n).all dig = true ∧ num (dec n) = n ∧ dec n ≠ [] := by
  induction n using Nat.strongRecOn with
  | _ n ih =>
    have hb : ∀ d, d < 10 → (UInt8.ofNat (48 + d)).toNat = 48 + d := fun d hd => by
      rw [UInt8.toNat_ofNat']
      exact Nat.mod_eq_of_lt (by omega)
    by_cases h : n < 10
    · rw [dec_small h]
      refine ⟨?_, ?_, by simp⟩
      · simp [dig, hb n h]; omega
      · rw [num_one, hb n h]; omega
    · obtain ⟨h1, h2, h3⟩ := ih (n / 10) (by omega)
      have hm : n % 10 < 10 := Nat.mod_lt _ (by decide)
      rw [dec_ten (by omega)]
      refine ⟨?_, ?_, by simp⟩
      · rw [List.all_append, h1]
        simp [dig, hb _ hm]; omega
      · rw [num_app, h2, num_one, hb _ hm]
        simp
        omega
theorem head_dec (n : Nat) : (dec n).head? ≠ some 45 ∧ (dec n).head? ≠ some 43 := by
  obtain ⟨h1, _, h3⟩ := dec_digits n
  cases hd : dec n with
  | nil => exact absurd hd h3
  | cons b r =>
    rw [hd, List.all_cons, Bool.and_eq_true] at h1
    have h2 := (dig_le h1.1).1
    simp only [List.head?_cons, ne_eq, Option.some.injEq]
    constructor
    all_goals
      intro e
      subst e
      simp at h2
theorem pz_fmt (z : Int) (h : (fmt z).length ≤ 1024) : pz (fmt z) = (z, 0) := by
  unfold pz
  rw [if_neg (by omega)]
  obtain ⟨h1, h2, h3⟩ := dec_digits z.natAbs
  obtain ⟨k1, k2⟩ := head_dec z.natAbs
  have hb : body (fmt z) = dec z.natAbs := by
    unfold body fmt
    by_cases hz : z < 0
    · rw [if_pos hz]; simp
    · rw [if_neg hz, if_neg (by rintro (e | e); exact k1 e; exact k2 e)]
  have hs : sgn (fmt z) = decide (z < 0) := by
    unfold sgn fmt
    by_cases hz : z < 0
    · rw [if_pos hz, decide_eq_true hz]; rfl
    · rw [if_neg hz, decide_eq_false hz]
      cases hd : (dec z.natAbs).head? with
      | none => rfl
      | some b => rw [hd] at k1; simp at k1 ⊢; exact k1
  rw [hb, hs, h2, if_neg (by rintro (e | e); exact h3 e; rw [h1] at e; cases e), sg_canon]
theorem fmt_inj {x y : Int} (h : fmt x = fmt y) (hx : (fmt x).length ≤ 1024) : x = y := by
  have h1 := pz_fmt x hx
  have h2 := pz_fmt y (by rw [← h]; exact hx)
  rw [h, h2] at h1
  exact (Prod.mk.inj h1).1.symm
end Go.Proofs.YtpmebjhlgdhchaaDoor
/-
  The integers: Parse.
-/
namespace Go.Proofs.YtpmebjhlgdhchaaDoor
open Go.RowKit
set_option linter.unusedSimpArgs false
set_option linter.unusedVariables false
set_option maxHeartbeats 16000000
set_option maxRecDepth 100000
section
variable {P : Program} {a : Act} {w : World} {o : Oper}
theorem ba_extract (s : List UInt8) (i j : Nat) : (ByteArray.mk s.toArray).extract i j = ⟨((s.take j).drop i).toArray⟩ := by
  apply ByteArray.ext
  simp [ByteArray.data_extract, List.extract_eq_take_drop, List.drop_take]
theorem ba_size (s : List UInt8) : (ByteArray.mk s.toArray).size = s.length := by simp [ByteArray.size]
theorem ev_strLen {x : Operand} {t : TypeId} (ho : o.op = .call { callee := .builtin .len, args := #[x], argTypes := #[t] }) {s : List UInt8} (hx : a.eval x = strV s) [h : Sy P t] : (execOp a.eval o).run P w = .ok (.value (.int .i64 s.length)) w := by
  have := c_lens (P := P) (w := w) ho (s := ⟨s.toArray⟩) hx
  rw [ba_size] at this
  exact this
theorem ev_strHead {t : TypeId} {x y : Operand} (ho : o.op = .slice t x none (some y) none) {s r : List UInt8} (hx : a.eval x = strV s) {k : IntKind} {i : Int} (hy : a.eval y = .int k i) [h : Sy P t] (hr : Hid (s.take i.toNat = r)) (h0 : 0 ≤ i := by omega) (h1 : i ≤ s.length := by omega) : (execOp a.eval o).run P w = .ok (.value (strV r)) w := by
  rw [← hr.out]
  unfold strV at hx
  have e := run_slice_string_h (P := P) w t ⟨s.toArray⟩ h.h k i h0 (by rw [ba_size]; exact h1)
  rw [ba_extract, List.drop_zero] at e
  unfold execOp
  simp only [ho, hx, hy, Option.map_none, Option.map_some, Sem.run_bind, run_sliceAt_string _ _ _ _ _ _ h.h, e, Result.andThen_ok, Sem.run_pure]
  rfl
theorem ev_strTail {t : TypeId} {x y : Operand} (ho : o.op = .slice t x (some y) none none) {s r : List UInt8} (hx : a.eval x = strV s) {k : IntKind} {i : Int} (hy : a.eval y = .int k i) [h : Sy P t] (hr : Hid (s.drop i.toNat = r)) (h0 : 0 ≤ i := by omega) (h1 : i ≤ s.length := by omega) : (execOp a.eval o).run P w = .ok (.value (strV r)) w := by
  rw [← hr.out]
  unfold strV at hx
  have e := run_slice_string_l (P := P) w t ⟨s.toArray⟩ h.h k i h0 (by rw [ba_size]; exact h1)
  rw [ba_extract, ba_size, List.take_length] at e
  unfold execOp
  simp only [ho, hx, hy, Option.map_none, Option.map_some, Sem.run_bind, run_sliceAt_string _ _ _ _ _ _ h.h, e, Result.andThen_ok, Sem.run_pure]
  rfl
theorem ev_strEq0 {t t' : TypeId} {x y : Operand} (ho : o.op = .binOp .eql t x y t') {s : List UInt8} (hx : a.eval x = strV s) (hy : a.eval y = strV []) {b : Bool} (hs : Hid ((s == []) = b)) : (execOp a.eval o).run P w = .ok (.value (.bool b)) w := by
  rw [← hs.out]; exact ev_strEq ho hx hy
theorem ev_strNe0 {t t' : TypeId} {x y : Operand} (ho : o.op = .binOp .neq t x y t') {s : List UInt8} (hx : a.eval x = strV s) (hy : a.eval y = strV []) {b : Bool} (hs : Hid ((s == []) = b)) : (execOp a.eval o).run P w = .ok (.value (.bool (!b))) w := by
  rw [← hs.out]; exact ev_strNe ho hx hy
end
theorem prefix_any (w : World) (s : List UInt8) (c : UInt8) {b : Bool} (hb : Hid ((s.head? == some c) = b)) : Calls Tryd.prog 73 #[strV s, .string (ByteArray.mk #[c])] w fun e w' => e = .returned (.bool b) ∧ Fr [] w w' := by
  refine Calls.mono (Tryd.strings_HasPrefix ⟨s.toArray⟩ (ByteArray.mk #[c]) w) ?_
  rintro e w' ⟨rfl, rfl⟩
  refine ⟨?_, Fr.refl _ _⟩
  rw [← hb.out]
  cases s with
  | nil => rfl
  | cons x r =>
    show Ending.returned (.bool (List.isPrefixOf [c] (x :: r))) = _
    have e : List.isPrefixOf [c] (x :: r) = ((x :: r).head? == some c) := by
      rw [List.isPrefixOf_cons_cons, List.head?_cons, Option.some_beq_some, Bool.beq_comm]
      simp [List.isPrefixOf]
    rw [e]
theorem atoi_any (w : World) (s : List UInt8) (hs : Hid (s.all dig = true)) (hn : Hid (s ≠ [])) (hl : s.length ≤ 18) : Calls Tryd.prog 76 #[strV s] w fun e w' => e = .returned (.tuple #[.int .i64 (num s : Int), .nilIface]) ∧ Fr [] w w' := by
  refine Calls.mono (Tryd.strconv_Atoi ⟨s.toArray⟩ (num s : Int) (by rw [ba_size]; exact hl) (atoi_num hs.out hn.out) w) ?_
  rintro e w' ⟨rfl, t, rfl⟩
  exact ⟨rfl, Fr.of_below (Lib.bytesWorld_below _ _ _)⟩
theorem notDig_any (w : World) (x : Nat) (hx : x ≤ 1114111) : Calls Tryd.prog 75 #[.int .i32 (x : Int)] w fun e w' => e = .returned (.bool (notDig x)) ∧ ∃ q, w' = w.drewN q := by
  by_cases h1 : x < 48
  · have HB := hid (show notDig x = true by unfold notDig; simp; omega)
    have H4 := hid (show decide ((57 : Int) < (x : Int)) = false from decide_eq_false (by omega))
    go_enter Tryd.func75, Tryd.ntmps75; go_wp2; go_ret; exact ⟨by rw [HB.out]; first | rfl | (show Ending.returned (.bool (decide ((57 : Int) < (x : Int)))) = _; rw [H4.out]), 0, rfl⟩
  · by_cases h2 : 57 < x
    · have HB := hid (show notDig x = true by unfold notDig; simp; omega)
      have H4 := hid (decide_eq_true (show (57 : Int) < (x : Int) by omega))
      have h3 : ¬ (x : Int) < 48 := by omega
      go_enter Tryd.func75, Tryd.ntmps75; go_wp2; go_ret; exact ⟨by rw [HB.out]; first | rfl | (show Ending.returned (.bool (decide ((57 : Int) < (x : Int)))) = _; rw [H4.out]), 0, rfl⟩
    · have HB := hid (show notDig x = false by unfold notDig; simp; omega)
      have h3 : ¬ (x : Int) < 48 := by omega
      have H4 := hid (decide_eq_false (show ¬ (57 : Int) < (x : Int) by omega))
      go_enter Tryd.func75, Tryd.ntmps75; go_wp2; go_ret; exact ⟨by rw [HB.out]; first | rfl | (show Ending.returned (.bool (decide ((57 : Int) < (x : Int)))) = _; rw [H4.out]), 0, rfl⟩
theorem notDigs_any (w : World) (s : List UInt8) {b : Bool} (hb : Hid ((!(s.all dig)) = b)) : Calls Tryd.prog 74 #[strV s, .func (.func 75) #[] #[]] w fun e w' => e = .returned (.bool b) ∧ Fr [] w w' := by
  refine Calls.mono (Tryd.strings_ContainsFunc_runes 75 #[] (fun args w => by rfl) notDig ⟨s.toArray⟩ w (fun W x hx _ => notDig_any W x hx)) ?_
  rintro e w' ⟨rfl, hF⟩
  exact ⟨by rw [idx_digits, hb.out], Fr.of_below hF⟩
end Go.Proofs.YtpmebjhlgdhchaaDoor
/-
  The integers: Parse, whole.
-/
namespace Go.Proofs.YtpmebjhlgdhchaaDoor
open Go.RowKit
set_option linter.unusedSimpArgs false
set_option linter.unusedVariables false
set_option maxHeartbeats 16000000
set_option maxRecDepth 100000

theorem tail_eq {s : List UInt8} : s.drop (1 : Int).toNat = s.tail := by cases s <;> rfl
theorem num_len {l : List UInt8} (h : l.all dig = true) : (digs (num l)).length ≤ l.length :=
  digs_len_of (Nat.lt_of_lt_of_le (num_lt l h) (Nat.pow_le_pow_left (by decide) _))
theorem num_nil : num [] = 0 := rfl
theorem val_sing (x : Nat) : val [x] = x := by simp [val]
theorem big_bv {w : World} {p : Option Addr} {n c : Nat} (neg : Bool) (l : List Nat) (hl : l.length = n) (h : LR w p c l) (k : Nat) (hk : n ≤ k) :
    Calls Tryd.prog 53 #[.bool neg, .slice p n c] w fun e w' => ∃ v', e = .returned v' ∧ Fr [] w w' ∧ Bv w' v' (sg neg (val l)) k := by
  refine Calls.mono (big_any neg l hl h) (fun e w' hb => hb.bv ?_)
  unfold dl
  rw [zv_abs]
  have := digs_len_le h.lim
  omega
theorem parse_any (w : World) (s : List UInt8) (hs : s.length ≤ 1000000) :
    Calls Tryd.prog 45 #[strV s] w fun e w' => ∃ v1, e = .returned (.tuple #[v1, .int .i64 (pz s).2]) ∧ Fr [] w w' ∧ Bv w' v1 (pz s).1 1024 := by
  have H := Hp.start [] w
  by_cases hl : 1024 < s.length
  · have HZ : Hid (pz s = (0, 2)) := hid (by unfold pz; rw [if_pos hl])
    go_enter Tryd.func45, Tryd.ntmps45
    go_wp2_with (first | refine x_e (ev_strEq0 rfl rfl rfl (by assumption)) ?_ | refine x_e (ev_strNe0 rfl rfl rfl (by assumption)) ?_ | refine x_q H ?_ | refine x_cm (fun h => ?_) (fun h => ?_) | refine x_e (ev_strLen rfl rfl) ?_ | refine x_e (ev_strHead rfl rfl rfl (by assumption)) ?_ | refine x_e (ev_strTail rfl rfl rfl (by assumption)) ?_ | (revert H; refine x_s2 ?_; intro w1 hf H hk; clear hf; change Kp _ _ at hk) | (revert H; (first | (refine x_g ?_; intro g w1 hg hf H) | (refine x_s ?_; intro w1 hf H)); (first | replace hf := hf.kp | clear hf)))
    refine c_postCT H rfl rfl rfl rfl ?_
    rw [HZ.out]
    exact ⟨_, rfl, H.fr, (bv_zero _).mono (Nat.zero_le _)⟩
  · obtain ⟨h1, hh1⟩ : ∃ b, (s.head? == some 45) = b := ⟨_, rfl⟩
    obtain ⟨h2, hh2⟩ : ∃ b, (s.head? == some 43) = b := ⟨_, rfl⟩
    have HN : Hid (sgn s = h1) := hid hh1
    obtain ⟨b, hb⟩ : ∃ b, body s = b := ⟨_, rfl⟩
    have HB := hid hb
    have HT : Hid (h1 = true ∨ h2 = true → s.drop (1 : Int).toNat = b) := hid (fun h => by
      rw [tail_eq, ← hb]; unfold body
      rw [if_pos]
      rcases h with h | h
      · left; rw [h] at hh1; simpa using hh1
      · right; rw [h] at hh2; simpa using hh2)
    have HS : Hid (h1 = false → h2 = false → s = b) := hid (fun e1 e2 => by
      rw [← hb]; unfold body
      rw [if_neg]
      rw [e1] at hh1
      rw [e2] at hh2
      simp at hh1 hh2
      rintro (h | h)
      · exact hh1 h
      · exact hh2 h)
    have hn1 : Hid (h1 = true ∨ h2 = true → 1 ≤ s.length) := hid (fun h => by
      cases s with
      | nil => rcases h with h | h
               · rw [h] at hh1; simp at hh1
               · rw [h] at hh2; simp at hh2
      | cons x r => simp)
    have hbl : b.length ≤ s.length := by rw [← hb]; unfold body; split <;> simp
    have HZ : Hid (b = [] ∨ b.all dig = false → pz s = (0, 7)) := hid (fun h => by unfold pz; rw [if_neg hl, hb, if_pos h])
    have HV : Hid (b ≠ [] → b.all dig = true → pz s = (sg h1 (num b), 0)) := hid (fun e1 e2 => by unfold pz; rw [if_neg hl, hb, if_neg (by rintro (h | h); exact e1 h; rw [e2] at h; cases h), HN.out])
    have Hh1 := hid hh1
    have Hh2 := hid hh2
    have hl2 : s.length ≤ 1024 := by omega
    clear hh1 hh2 hl hb HB HN
    obtain ⟨e0, he0⟩ : ∃ e, (b == []) = e := ⟨_, rfl⟩
    have HE0 := hid he0
    obtain ⟨d0, hd0⟩ : ∃ d, (!(b.all dig)) = d := ⟨_, rfl⟩
    have HD0 := hid hd0
    have hb0 : Hid (e0 = false → b ≠ []) := hid (fun h e => by rw [h, e] at he0; cases he0)
    have hbe : Hid (e0 = true → b = []) := hid (fun h => by rw [h] at he0; simpa using he0)
    have hbd : Hid (d0 = false → b.all dig = true) := hid (fun h => by rw [h] at hd0; simpa using hd0)
    have hbx : Hid (d0 = true → b.all dig = false) := hid (fun h => by rw [h] at hd0; simpa using hd0)
    clear he0 hd0
    go_enter Tryd.func45, Tryd.ntmps45
    go_wp2_with (first | refine x_e (ev_strEq0 rfl rfl rfl (by assumption)) ?_ | refine x_e (ev_strNe0 rfl rfl rfl (by assumption)) ?_ | refine x_q H ?_ | refine x_cm (fun h => ?_) (fun h => ?_) | refine x_e (ev_strLen rfl rfl) ?_ | refine x_e (ev_strHead rfl rfl rfl (by assumption)) ?_ | refine x_e (ev_strTail rfl rfl rfl (by assumption)) ?_ | (revert H; refine x_s2 ?_; intro w1 hf H hk; clear hf; change Kp _ _ at hk) | (revert H; (first | (refine x_g ?_; intro g w1 hg hf H) | (refine x_s ?_; intro w1 hf H)); (first | replace hf := hf.kp | clear hf)))
    (refine x_c H (prefix_any _ s 45 Hh1) ?_; clear H; rintro e w1 ⟨rfl, hF⟩ H; replace hF := hF.kp; skip)
    cases h1
    · go_wp2_with (first | refine x_e (ev_strEq0 rfl rfl rfl (by assumption)) ?_ | refine x_e (ev_strNe0 rfl rfl rfl (by assumption)) ?_ | refine x_q H ?_ | refine x_cm (fun h => ?_) (fun h => ?_) | refine x_e (ev_strLen rfl rfl) ?_ | refine x_e (ev_strHead rfl rfl rfl (by assumption)) ?_ | refine x_e (ev_strTail rfl rfl rfl (by assumption)) ?_ | (revert H; refine x_s2 ?_; intro w1 hf H hk; clear hf; change Kp _ _ at hk) | (revert H; (first | (refine x_g ?_; intro g w1 hg hf H) | (refine x_s ?_; intro w1 hf H)); (first | replace hf := hf.kp | clear hf)))
      (refine x_c H (prefix_any _ s 43 Hh2) ?_; clear H; rintro e w1 ⟨rfl, hF⟩ H; replace hF := hF.kp; skip)
      cases h2
      · obtain rfl := (show b = s by have h := HS.out; simp at h; exact h.symm)
        clear HT HS hn1
        cases e0
        · cases d0
          · go_wp2_with (first | refine x_e (ev_strEq0 rfl rfl rfl (by assumption)) ?_ | refine x_e (ev_strNe0 rfl rfl rfl (by assumption)) ?_ | refine x_q H ?_ | refine x_cm (fun h => ?_) (fun h => ?_) | refine x_e (ev_strLen rfl rfl) ?_ | refine x_e (ev_strHead rfl rfl rfl (by assumption)) ?_ | refine x_e (ev_strTail rfl rfl rfl (by assumption)) ?_ | (revert H; refine x_s2 ?_; intro w1 hf H hk; clear hf; change Kp _ _ at hk) | (revert H; (first | (refine x_g ?_; intro g w1 hg hf H) | (refine x_s ?_; intro w1 hf H)); (first | replace hf := hf.kp | clear hf)))
            (refine x_c H (notDigs_any _ _ HD0) ?_; clear H; rintro e w1 ⟨rfl, hF⟩ H; replace hF := hF.kp; skip)
            go_wp2_with (first | refine x_e (ev_strEq0 rfl rfl rfl (by assumption)) ?_ | refine x_e (ev_strNe0 rfl rfl rfl (by assumption)) ?_ | refine x_q H ?_ | refine x_cm (fun h => ?_) (fun h => ?_) | refine x_e (ev_strLen rfl rfl) ?_ | refine x_e (ev_strHead rfl rfl rfl (by assumption)) ?_ | refine x_e (ev_strTail rfl rfl rfl (by assumption)) ?_ | (revert H; refine x_s2 ?_; intro w1 hf H hk; clear hf; change Kp _ _ at hk) | (revert H; (first | (refine x_g ?_; intro g w1 hg hf H) | (refine x_s ?_; intro w1 hf H)); (first | replace hf := hf.kp | clear hf)))
            have Hall := hid (show b.all dig = true by have h := hbd.out; simpa using h)
            have HV2 := hid (HV.out (by have h := hb0.out; simpa using h) Hall.out)
            clear HZ hb0 hbe hbd hbx HV HE0 HD0 Hh1 Hh2
            go_loopg [0, 5] b.length (fun kk s0 s5 wr => ∃ (pre rest : List UInt8) (p5 : Option Addr) (c5 : Nat), s0 = strV rest ∧ s5 = .slice p5 (digs (num pre)).length c5 ∧ Hid (pre ++ rest = b) ∧ Hid (rest.length = kk) ∧ Hid (pre = [] ∨ rest.length % 9 = 0) ∧ Hid (LR wr p5 c5 (digs (num pre))) ∧ Hp [] w wr [.blk g [.bool false, .slice none 0 0] 24])
            case atStart => exact ⟨[], b, none, 0, rfl, by rw [num_nil, digs_zero]; rfl, hid rfl, hid rfl, hid (.inl rfl), hid (by rw [num_nil, digs_zero]; exact LR.zero _), H⟩
            case round =>
              clear H
              obtain ⟨pre, rest, p5, c5, rfl, rfl, Hpre, Hlen, Hmod, HL5, H⟩ := hrel
              have hrl : pre.length + rest.length ≤ 1024 := by have h := congrArg List.length Hpre.out; rw [List.length_append] at h; omega
              have Hap : Hid (pre.all dig = true ∧ rest.all dig = true) := hid (by have h := Hall.out; rw [← Hpre.out, List.all_append, Bool.and_eq_true] at h; exact h)
              have hdl := num_len Hap.out.1
              by_cases hre : rest = []
              · have HR0 : Hid ((rest == []) = true) := hid (by rw [hre]; rfl)
                have HQ : Hid (pre = b) := hid (by have h := Hpre.out; rw [hre, List.append_nil] at h; exact h)
                clear hre
                go_wp2_with (first | refine x_e (ev_strEq0 rfl rfl rfl (by assumption)) ?_ | refine x_e (ev_strNe0 rfl rfl rfl (by assumption)) ?_ | refine x_q H ?_ | refine x_cm (fun h => ?_) (fun h => ?_) | refine x_e (ev_strLen rfl rfl) ?_ | refine x_e (ev_strHead rfl rfl rfl (by assumption)) ?_ | refine x_e (ev_strTail rfl rfl rfl (by assumption)) ?_ | (revert H; refine x_s2 ?_; intro w1 hf H hk; clear hf; change Kp _ _ at hk) | (revert H; (first | (refine x_g ?_; intro g w1 hg hf H) | (refine x_s ?_; intro w1 hf H)); (first | replace hf := hf.kp | clear hf)))
                (refine x_c H (big_bv false (digs (num pre)) rfl (lr HL5) 1024 (by omega)) ?_; clear H; rintro e w1 ⟨v6, rfl, hF, hB⟩ H; replace hF := hF.kp; rw [val_digs, HQ.out] at hB; obtain ⟨b6, p6, m6, c6, rfl⟩ := hB.form; have HB6 := hid hB; clear hB)
                go_wp2_with (first | refine x_e (ev_strEq0 rfl rfl rfl (by assumption)) ?_ | refine x_e (ev_strNe0 rfl rfl rfl (by assumption)) ?_ | refine x_q H ?_ | refine x_cm (fun h => ?_) (fun h => ?_) | refine x_e (ev_strLen rfl rfl) ?_ | refine x_e (ev_strHead rfl rfl rfl (by assumption)) ?_ | refine x_e (ev_strTail rfl rfl rfl (by assumption)) ?_ | (revert H; refine x_s2 ?_; intro w1 hf H hk; clear hf; change Kp _ _ at hk) | (revert H; (first | (refine x_g ?_; intro g w1 hg hf H) | (refine x_s ?_; intro w1 hf H)); (first | replace hf := hf.kp | clear hf)))
                refine c_postCT H rfl rfl rfl rfl ?_
                rw [HV2.out]
                exact ⟨_, rfl, H.fr, bv HB6⟩
              · have HR0 : Hid ((rest == []) = false) := hid (by simpa using hre)
                have hpos : 1 ≤ rest.length := by cases rest with
                  | nil => exact absurd rfl hre
                  | cons x r => simp
                obtain ⟨m, hm⟩ : ∃ m, (rest.length - 1) % 9 + 1 = m := ⟨_, rfl⟩
                have hmz : (((rest.length : Int) - 1) % 9 + 1).toNat = m := by omega
                have hm9 : m ≤ 9 := by omega
                have hmr : m ≤ rest.length := by omega
                obtain ⟨gr, hgr⟩ : ∃ g, rest.take m = g := ⟨_, rfl⟩
                obtain ⟨rest2, hr2⟩ : ∃ r, rest.drop m = r := ⟨_, rfl⟩
                have HG : Hid (rest.take (((rest.length : Int) - 1) % 9 + 1).toNat = gr) := hid (by rw [hmz]; exact hgr)
                have HD : Hid (rest.drop (((rest.length : Int) - 1) % 9 + 1).toNat = rest2) := hid (by rw [hmz]; exact hr2)
                have Hsp : Hid (rest = gr ++ rest2) := hid (by rw [← hgr, ← hr2, List.take_append_drop])
                have hgl : gr.length = m := by rw [← hgr, List.length_take]; omega
                have hgl9 : gr.length ≤ 18 := by omega
                have hgl1 : gr.length + rest2.length ≤ rest.length := by rw [Hsp.out, List.length_append]; exact Nat.le_refl _
                have Hg2 : Hid (gr.all dig = true ∧ rest2.all dig = true) := hid (by have h := Hap.out.2; rw [Hsp.out, List.all_append, Bool.and_eq_true] at h; exact h)
                have Hga := hid Hg2.out.1
                have Hgn : Hid (gr ≠ []) := hid (fun e => by rw [e] at hgl; simp at hgl; omega)
                have hv9 : num gr < 1000000000 := Nat.lt_of_lt_of_le (num_lt gr Hga.out) (by rw [hgl]; exact Nat.le_trans (Nat.pow_le_pow_right (n := 10) (by decide) hm9) (by decide))
                have hd1 : (digs (num pre * 1000000000)).length ≤ 1100 := by
                  refine Nat.le_trans (digs_len_of (k := (digs (num pre)).length + 1) ?_) (by omega)
                  rw [Nat.pow_succ]
                  exact Nat.mul_lt_mul'' (digs_lt _) (by decide)
                have hd2 : (digs (num gr)).length ≤ 1 := digs_len_of (by omega)
                have HNum : Hid (num pre * 1000000000 + num gr = num (pre ++ gr)) := hid (by
                  rw [num_app]
                  rcases Hmod.out with h | h
                  · rw [h, num_nil, Nat.zero_mul, Nat.zero_mul]
                  · have e : gr.length = 9 := by omega
                    rw [e])
                have Hm2 : Hid (pre ++ gr = [] ∨ rest2.length % 9 = 0) := hid (.inr (by
                  have h : rest.length = gr.length + rest2.length := by rw [Hsp.out, List.length_append]
                  omega))
                have HP2 : Hid ((pre ++ gr) ++ rest2 = b) := hid (by rw [List.append_assoc, ← Hsp.out]; exact Hpre.out)
                have hlt : rest2.length < rest.length := by
                  have h : rest.length = gr.length + rest2.length := by rw [Hsp.out, List.length_append]
                  omega
                have Hlt := hid hlt
                clear hre hm hmz hgr hr2 hlt Hmod Hpre hgl
                go_wp2_with (first | refine x_e (ev_strEq0 rfl rfl rfl (by assumption)) ?_ | refine x_e (ev_strNe0 rfl rfl rfl (by assumption)) ?_ | refine x_q H ?_ | refine x_cm (fun h => ?_) (fun h => ?_) | refine x_e (ev_strLen rfl rfl) ?_ | refine x_e (ev_strHead rfl rfl rfl (by assumption)) ?_ | refine x_e (ev_strTail rfl rfl rfl (by assumption)) ?_ | (revert H; refine x_s2 ?_; intro w1 hf H hk; clear hf; change Kp _ _ at hk) | (revert H; (first | (refine x_g ?_; intro g w1 hg hf H) | (refine x_s ?_; intro w1 hf H)); (first | replace hf := hf.kp | clear hf)))
                (refine x_c H (atoi_any _ gr Hga Hgn hgl9) ?_; clear H; rintro e w1 ⟨rfl, hF⟩ H; replace hF := hF.kp; skip)
                go_wp2_with (first | refine x_e (ev_strEq0 rfl rfl rfl (by assumption)) ?_ | refine x_e (ev_strNe0 rfl rfl rfl (by assumption)) ?_ | refine x_q H ?_ | refine x_cm (fun h => ?_) (fun h => ?_) | refine x_e (ev_strLen rfl rfl) ?_ | refine x_e (ev_strHead rfl rfl rfl (by assumption)) ?_ | refine x_e (ev_strTail rfl rfl rfl (by assumption)) ?_ | (revert H; refine x_s2 ?_; intro w1 hf H hk; clear hf; change Kp _ _ at hk) | (revert H; (first | (refine x_g ?_; intro g w1 hg hf H) | (refine x_s ?_; intro w1 hf H)); (first | replace hf := hf.kp | clear hf)))
                have HO := hid (LR.of_blk (l := [1000000000]) (c := 1) (pad := []) (by have := H.at g; simpa [limbs] using this) (Lim.cons (by decide) Lim.nil) (by simp) (by unfold maxLen; omega))
                (refine x_c H (times_any (digs (num pre)) [1000000000] rfl rfl (by omega) (by simp) (lr HL5) HO.out) ?_; clear H; rintro e w1 ⟨p6, c6, rfl, hF, hL⟩ H; replace hF := hF.kp; rw [val_digs, val_sing] at hL; have HL6 := hid hL; clear hL)
                rw [val_digs, val_sing]
                go_wp2_with (first | refine x_e (ev_strEq0 rfl rfl rfl (by assumption)) ?_ | refine x_e (ev_strNe0 rfl rfl rfl (by assumption)) ?_ | refine x_q H ?_ | refine x_cm (fun h => ?_) (fun h => ?_) | refine x_e (ev_strLen rfl rfl) ?_ | refine x_e (ev_strHead rfl rfl rfl (by assumption)) ?_ | refine x_e (ev_strTail rfl rfl rfl (by assumption)) ?_ | (revert H; refine x_s2 ?_; intro w1 hf H hk; clear hf; change Kp _ _ at hk) | (revert H; (first | (refine x_g ?_; intro g w1 hg hf H) | (refine x_s ?_; intro w1 hf H)); (first | replace hf := hf.kp | clear hf)))
                have HO2 := hid (LR.of_blk (l := [num gr]) (c := 1) (pad := []) (by have := H.at g; simpa [limbs] using this) (Lim.cons (by omega) Lim.nil) (by simp) (by unfold maxLen; omega))
                (refine x_c H (trim_any [num gr] rfl HO2.out) ?_; clear H; rintro e w1 ⟨rfl, hF⟩ H; replace hF := hF.kp; skip)
                have HT2 := hid (show LR _ _ _ (digs (num gr)) by have h := (lr HO2).trim; rw [val_sing] at h; exact h)
                rw [val_sing]
                go_wp2_with (first | refine x_e (ev_strEq0 rfl rfl rfl (by assumption)) ?_ | refine x_e (ev_strNe0 rfl rfl rfl (by assumption)) ?_ | refine x_q H ?_ | refine x_cm (fun h => ?_) (fun h => ?_) | refine x_e (ev_strLen rfl rfl) ?_ | refine x_e (ev_strHead rfl rfl rfl (by assumption)) ?_ | refine x_e (ev_strTail rfl rfl rfl (by assumption)) ?_ | (revert H; refine x_s2 ?_; intro w1 hf H hk; clear hf; change Kp _ _ at hk) | (revert H; (first | (refine x_g ?_; intro g w1 hg hf H) | (refine x_s ?_; intro w1 hf H)); (first | replace hf := hf.kp | clear hf)))
                (refine x_c H (plus_any (digs (num pre * 1000000000)) (digs (num gr)) rfl rfl (by omega) (by omega) (lr HL6) (lr HT2)) ?_; clear H; rintro e w1 ⟨p8, c8, rfl, hF, hL⟩ H; replace hF := hF.kp; rw [val_digs, val_digs, HNum.out] at hL; have HL8 := hid hL; clear hL)
                rw [val_digs, val_digs, HNum.out]
                go_wp2_with (first | refine x_e (ev_strEq0 rfl rfl rfl (by assumption)) ?_ | refine x_e (ev_strNe0 rfl rfl rfl (by assumption)) ?_ | refine x_q H ?_ | refine x_cm (fun h => ?_) (fun h => ?_) | refine x_e (ev_strLen rfl rfl) ?_ | refine x_e (ev_strHead rfl rfl rfl (by assumption)) ?_ | refine x_e (ev_strTail rfl rfl rfl (by assumption)) ?_ | (revert H; refine x_s2 ?_; intro w1 hf H hk; clear hf; change Kp _ _ at hk) | (revert H; (first | (refine x_g ?_; intro g w1 hg hf H) | (refine x_s ?_; intro w1 hf H)); (first | replace hf := hf.kp | clear hf)))
                go_roundg rest2.length
                case measure => have := Hlen.out; have := Hlt.out; omega
                case rel => exact ⟨pre ++ gr, rest2, _, _, rfl, rfl, HP2, hid rfl, Hm2, hid (lr HL8), by (refine Hp.arr H ?_; repeat (first | exact Pm.nil _ | (apply Pm.cons; · (repeat first | exact Rm.here _ | apply Rm.there))))⟩
          · go_wp2_with (first | refine x_e (ev_strEq0 rfl rfl rfl (by assumption)) ?_ | refine x_e (ev_strNe0 rfl rfl rfl (by assumption)) ?_ | refine x_q H ?_ | refine x_cm (fun h => ?_) (fun h => ?_) | refine x_e (ev_strLen rfl rfl) ?_ | refine x_e (ev_strHead rfl rfl rfl (by assumption)) ?_ | refine x_e (ev_strTail rfl rfl rfl (by assumption)) ?_ | (revert H; refine x_s2 ?_; intro w1 hf H hk; clear hf; change Kp _ _ at hk) | (revert H; (first | (refine x_g ?_; intro g w1 hg hf H) | (refine x_s ?_; intro w1 hf H)); (first | replace hf := hf.kp | clear hf)))
            (refine x_c H (notDigs_any _ _ HD0) ?_; clear H; rintro e w1 ⟨rfl, hF⟩ H; replace hF := hF.kp; skip)
            go_wp2_with (first | refine x_e (ev_strEq0 rfl rfl rfl (by assumption)) ?_ | refine x_e (ev_strNe0 rfl rfl rfl (by assumption)) ?_ | refine x_q H ?_ | refine x_cm (fun h => ?_) (fun h => ?_) | refine x_e (ev_strLen rfl rfl) ?_ | refine x_e (ev_strHead rfl rfl rfl (by assumption)) ?_ | refine x_e (ev_strTail rfl rfl rfl (by assumption)) ?_ | (revert H; refine x_s2 ?_; intro w1 hf H hk; clear hf; change Kp _ _ at hk) | (revert H; (first | (refine x_g ?_; intro g w1 hg hf H) | (refine x_s ?_; intro w1 hf H)); (first | replace hf := hf.kp | clear hf)))
            refine c_postCT H rfl rfl rfl rfl ?_
            rw [HZ.out (.inr (by have h := hbx.out; simpa using h))]
            exact ⟨_, rfl, H.fr, (bv_zero _).mono (Nat.zero_le _)⟩
        · go_wp2_with (first | refine x_e (ev_strEq0 rfl rfl rfl (by assumption)) ?_ | refine x_e (ev_strNe0 rfl rfl rfl (by assumption)) ?_ | refine x_q H ?_ | refine x_cm (fun h => ?_) (fun h => ?_) | refine x_e (ev_strLen rfl rfl) ?_ | refine x_e (ev_strHead rfl rfl rfl (by assumption)) ?_ | refine x_e (ev_strTail rfl rfl rfl (by assumption)) ?_ | (revert H; refine x_s2 ?_; intro w1 hf H hk; clear hf; change Kp _ _ at hk) | (revert H; (first | (refine x_g ?_; intro g w1 hg hf H) | (refine x_s ?_; intro w1 hf H)); (first | replace hf := hf.kp | clear hf)))
          refine c_postCT H rfl rfl rfl rfl ?_
          rw [HZ.out (.inl (by have h := hbe.out; simpa using h))]
          exact ⟨_, rfl, H.fr, (bv_zero _).mono (Nat.zero_le _)⟩
      · have HT1 := hid (show s.drop (1 : Int).toNat = b by have h := HT.out; simpa using h)
        have hn2 := (show 1 ≤ s.length by have h := hn1.out; simpa using h)
        clear HT HS hn1
        cases e0
        · cases d0
          · go_wp2_with (first | refine x_e (ev_strEq0 rfl rfl rfl (by assumption)) ?_ | refine x_e (ev_strNe0 rfl rfl rfl (by assumption)) ?_ | refine x_q H ?_ | refine x_cm (fun h => ?_) (fun h => ?_) | refine x_e (ev_strLen rfl rfl) ?_ | refine x_e (ev_strHead rfl rfl rfl (by assumption)) ?_ | refine x_e (ev_strTail rfl rfl rfl (by assumption)) ?_ | (revert H; refine x_s2 ?_; intro w1 hf H hk; clear hf; change Kp _ _ at hk) | (revert H; (first | (refine x_g ?_; intro g w1 hg hf H) | (refine x_s ?_; intro w1 hf H)); (first | replace hf := hf.kp | clear hf)))
            (refine x_c H (notDigs_any _ _ HD0) ?_; clear H; rintro e w1 ⟨rfl, hF⟩ H; replace hF := hF.kp; skip)
            go_wp2_with (first | refine x_e (ev_strEq0 rfl rfl rfl (by assumption)) ?_ | refine x_e (ev_strNe0 rfl rfl rfl (by assumption)) ?_ | refine x_q H ?_ | refine x_cm (fun h => ?_) (fun h => ?_) | refine x_e (ev_strLen rfl rfl) ?_ | refine x_e (ev_strHead rfl rfl rfl (by assumption)) ?_ | refine x_e (ev_strTail rfl rfl rfl (by assumption)) ?_ | (revert H; refine x_s2 ?_; intro w1 hf H hk; clear hf; change Kp _ _ at hk) | (revert H; (first | (refine x_g ?_; intro g w1 hg hf H) | (refine x_s ?_; intro w1 hf H)); (first | replace hf := hf.kp | clear hf)))
            have Hall := hid (show b.all dig = true by have h := hbd.out; simpa using h)
            have HV2 := hid (HV.out (by have h := hb0.out; simpa using h) Hall.out)
            clear HZ hb0 hbe hbd hbx HV HE0 HD0 Hh1 Hh2
            go_loopg [0, 5] b.length (fun kk s0 s5 wr => ∃ (pre rest : List UInt8) (p5 : Option Addr) (c5 : Nat), s0 = strV rest ∧ s5 = .slice p5 (digs (num pre)).length c5 ∧ Hid (pre ++ rest = b) ∧ Hid (rest.length = kk) ∧ Hid (pre = [] ∨ rest.length % 9 = 0) ∧ Hid (LR wr p5 c5 (digs (num pre))) ∧ Hp [] w wr [.blk g [.bool false, .slice none 0 0] 24])
            case atStart => exact ⟨[], b, none, 0, rfl, by rw [num_nil, digs_zero]; rfl, hid rfl, hid rfl, hid (.inl rfl), hid (by rw [num_nil, digs_zero]; exact LR.zero _), H⟩
            case round =>
              clear H
              obtain ⟨pre, rest, p5, c5, rfl, rfl, Hpre, Hlen, Hmod, HL5, H⟩ := hrel
              have hrl : pre.length + rest.length ≤ 1024 := by have h := congrArg List.length Hpre.out; rw [List.length_append] at h; omega
              have Hap : Hid (pre.all dig = true ∧ rest.all dig = true) := hid (by have h := Hall.out; rw [← Hpre.out, List.all_append, Bool.and_eq_true] at h; exact h)
              have hdl := num_len Hap.out.1
              by_cases hre : rest = []
              · have HR0 : Hid ((rest == []) = true) := hid (by rw [hre]; rfl)
                have HQ : Hid (pre = b) := hid (by have h := Hpre.out; rw [hre, List.append_nil] at h; exact h)
                clear hre
                go_wp2_with (first | refine x_e (ev_strEq0 rfl rfl rfl (by assumption)) ?_ | refine x_e (ev_strNe0 rfl rfl rfl (by assumption)) ?_ | refine x_q H ?_ | refine x_cm (fun h => ?_) (fun h => ?_) | refine x_e (ev_strLen rfl rfl) ?_ | refine x_e (ev_strHead rfl rfl rfl (by assumption)) ?_ | refine x_e (ev_strTail rfl rfl rfl (by assumption)) ?_ | (revert H; refine x_s2 ?_; intro w1 hf H hk; clear hf; change Kp _ _ at hk) | (revert H; (first | (refine x_g ?_; intro g w1 hg hf H) | (refine x_s ?_; intro w1 hf H)); (first | replace hf := hf.kp | clear hf)))
                (refine x_c H (big_bv false (digs (num pre)) rfl (lr HL5) 1024 (by omega)) ?_; clear H; rintro e w1 ⟨v6, rfl, hF, hB⟩ H; replace hF := hF.kp; rw [val_digs, HQ.out] at hB; obtain ⟨b6, p6, m6, c6, rfl⟩ := hB.form; have HB6 := hid hB; clear hB)
                go_wp2_with (first | refine x_e (ev_strEq0 rfl rfl rfl (by assumption)) ?_ | refine x_e (ev_strNe0 rfl rfl rfl (by assumption)) ?_ | refine x_q H ?_ | refine x_cm (fun h => ?_) (fun h => ?_) | refine x_e (ev_strLen rfl rfl) ?_ | refine x_e (ev_strHead rfl rfl rfl (by assumption)) ?_ | refine x_e (ev_strTail rfl rfl rfl (by assumption)) ?_ | (revert H; refine x_s2 ?_; intro w1 hf H hk; clear hf; change Kp _ _ at hk) | (revert H; (first | (refine x_g ?_; intro g w1 hg hf H) | (refine x_s ?_; intro w1 hf H)); (first | replace hf := hf.kp | clear hf)))
                refine c_postCT H rfl rfl rfl rfl ?_
                rw [HV2.out]
                exact ⟨_, rfl, H.fr, bv HB6⟩
              · have HR0 : Hid ((rest == []) = false) := hid (by simpa using hre)
                have hpos : 1 ≤ rest.length := by cases rest with
                  | nil => exact absurd rfl hre
                  | cons x r => simp
                obtain ⟨m, hm⟩ : ∃ m, (rest.length - 1) % 9 + 1 = m := ⟨_, rfl⟩
                have hmz : (((rest.length : Int) - 1) % 9 + 1).toNat = m := by omega
                have hm9 : m ≤ 9 := by omega
                have hmr : m ≤ rest.length := by omega
                obtain ⟨gr, hgr⟩ : ∃ g, rest.take m = g := ⟨_, rfl⟩
                obtain ⟨rest2, hr2⟩ : ∃ r, rest.drop m = r := ⟨_, rfl⟩
                have HG : Hid (rest.take (((rest.length : Int) - 1) % 9 + 1).toNat = gr) := hid (by rw [hmz]; exact hgr)
                have HD : Hid (rest.drop (((rest.length : Int) - 1) % 9 + 1).toNat = rest2) := hid (by rw [hmz]; exact hr2)
                have Hsp : Hid (rest = gr ++ rest2) := hid (by rw [← hgr, ← hr2, List.take_append_drop])
                have hgl : gr.length = m := by rw [← hgr, List.length_take]; omega
                have hgl9 : gr.length ≤ 18 := by omega
                have hgl1 : gr.length + rest2.length ≤ rest.length := by rw [Hsp.out, List.length_append]; exact Nat.le_refl _
                have Hg2 : Hid (gr.all dig = true ∧ rest2.all dig = true) := hid (by have h := Hap.out.2; rw [Hsp.out, List.all_append, Bool.and_eq_true] at h; exact h)
                have Hga := hid Hg2.out.1
                have Hgn : Hid (gr ≠ []) := hid (fun e => by rw [e] at hgl; simp at hgl; omega)
                have hv9 : num gr < 1000000000 := Nat.lt_of_lt_of_le (num_lt gr Hga.out) (by rw [hgl]; exact Nat.le_trans (Nat.pow_le_pow_right (n := 10) (by decide) hm9) (by decide))
                have hd1 : (digs (num pre * 1000000000)).length ≤ 1100 := by
                  refine Nat.le_trans (digs_len_of (k := (digs (num pre)).length + 1) ?_) (by omega)
                  rw [Nat.pow_succ]
                  exact Nat.mul_lt_mul'' (digs_lt _) (by decide)
                have hd2 : (digs (num gr)).length ≤ 1 := digs_len_of (by omega)
                have HNum : Hid (num pre * 1000000000 + num gr = num (pre ++ gr)) := hid (by
                  rw [num_app]
                  rcases Hmod.out with h | h
                  · rw [h, num_nil, Nat.zero_mul, Nat.zero_mul]
                  · have e : gr.length = 9 := by omega
                    rw [e])
                have Hm2 : Hid (pre ++ gr = [] ∨ rest2.length % 9 = 0) := hid (.inr (by
                  have h : rest.length = gr.length + rest2.length := by rw [Hsp.out, List.length_append]
                  omega))
                have HP2 : Hid ((pre ++ gr) ++ rest2 = b) := hid (by rw [List.append_assoc, ← Hsp.out]; exact Hpre.out)
                have hlt : rest2.length < rest.length := by
                  have h : rest.length = gr.length + rest2.length := by rw [Hsp.out, List.length_append]
                  omega
                have Hlt := hid hlt
                clear hre hm hmz hgr hr2 hlt Hmod Hpre hgl
                go_wp2_with (first | refine x_e (ev_strEq0 rfl rfl rfl (by assumption)) ?_ | refine x_e (ev_strNe0 rfl rfl rfl (by assumption)) ?_ | refine x_q H ?_ | refine x_cm (fun h => ?_) (fun h => ?_) | refine x_e (ev_strLen rfl rfl) ?_ | refine x_e (ev_strHead rfl rfl rfl (by assumption)) ?_ | refine x_e (ev_strTail rfl rfl rfl (by assumption)) ?_ | (revert H; refine x_s2 ?_; intro w1 hf H hk; clear hf; change Kp _ _ at hk) | (revert H; (first | (refine x_g ?_; intro g w1 hg hf H) | (refine x_s ?_; intro w1 hf H)); (first | replace hf := hf.kp | clear hf)))
                (refine x_c H (atoi_any _ gr Hga Hgn hgl9) ?_; clear H; rintro e w1 ⟨rfl, hF⟩ H; replace hF := hF.kp; skip)
                go_wp2_with (first | refine x_e (ev_strEq0 rfl rfl rfl (by assumption)) ?_ | refine x_e (ev_strNe0 rfl rfl rfl (by assumption)) ?_ | refine x_q H ?_ | refine x_cm (fun h => ?_) (fun h => ?_) | refine x_e (ev_strLen rfl rfl) ?_ | refine x_e (ev_strHead rfl rfl rfl (by assumption)) ?_ | refine x_e (ev_strTail rfl rfl rfl (by assumption)) ?_ | (revert H; refine x_s2 ?_; intro w1 hf H hk; clear hf; change Kp _ _ at hk) | (revert H; (first | (refine x_g ?_; intro g w1 hg hf H) | (refine x_s ?_; intro w1 hf H)); (first | replace hf := hf.kp | clear hf)))
                have HO := hid (LR.of_blk (l := [1000000000]) (c := 1) (pad := []) (by have := H.at g; simpa [limbs] using this) (Lim.cons (by decide) Lim.nil) (by simp) (by unfold maxLen; omega))
                (refine x_c H (times_any (digs (num pre)) [1000000000] rfl rfl (by omega) (by simp) (lr HL5) HO.out) ?_; clear H; rintro e w1 ⟨p6, c6, rfl, hF, hL⟩ H; replace hF := hF.kp; rw [val_digs, val_sing] at hL; have HL6 := hid hL; clear hL)
                rw [val_digs, val_sing]
                go_wp2_with (first | refine x_e (ev_strEq0 rfl rfl rfl (by assumption)) ?_ | refine x_e (ev_strNe0 rfl rfl rfl (by assumption)) ?_ | refine x_q H ?_ | refine x_cm (fun h => ?_) (fun h => ?_) | refine x_e (ev_strLen rfl rfl) ?_ | refine x_e (ev_strHead rfl rfl rfl (by assumption)) ?_ | refine x_e (ev_strTail rfl rfl rfl (by assumption)) ?_ | (revert H; refine x_s2 ?_; intro w1 hf H hk; clear hf; change Kp _ _ at hk) | (revert H; (first | (refine x_g ?_; intro g w1 hg hf H) | (refine x_s ?_; intro w1 hf H)); (first | replace hf := hf.kp | clear hf)))
                have HO2 := hid (LR.of_blk (l := [num gr]) (c := 1) (pad := []) (by have := H.at g; simpa [limbs] using this) (Lim.cons (by omega) Lim.nil) (by simp) (by unfold maxLen; omega))
                (refine x_c H (trim_any [num gr] rfl HO2.out) ?_; clear H; rintro e w1 ⟨rfl, hF⟩ H; replace hF := hF.kp; skip)
                have HT2 := hid (show LR _ _ _ (digs (num gr)) by have h := (lr HO2).trim; rw [val_sing] at h; exact h)
                rw [val_sing]
                go_wp2_with (first | refine x_e (ev_strEq0 rfl rfl rfl (by assumption)) ?_ | refine x_e (ev_strNe0 rfl rfl rfl (by assumption)) ?_ | refine x_q H ?_ | refine x_cm (fun h => ?_) (fun h => ?_) | refine x_e (ev_strLen rfl rfl) ?_ | refine x_e (ev_strHead rfl rfl rfl (by assumption)) ?_ | refine x_e (ev_strTail rfl rfl rfl (by assumption)) ?_ | (revert H; refine x_s2 ?_; intro w1 hf H hk; clear hf; change Kp _ _ at hk) | (revert H; (first | (refine x_g ?_; intro g w1 hg hf H) | (refine x_s ?_; intro w1 hf H)); (first | replace hf := hf.kp | clear hf)))
                (refine x_c H (plus_any (digs (num pre * 1000000000)) (digs (num gr)) rfl rfl (by omega) (by omega) (lr HL6) (lr HT2)) ?_; clear H; rintro e w1 ⟨p8, c8, rfl, hF, hL⟩ H; replace hF := hF.kp; rw [val_digs, val_digs, HNum.out] at hL; have HL8 := hid hL; clear hL)
                rw [val_digs, val_digs, HNum.out]
                go_wp2_with (first | refine x_e (ev_strEq0 rfl rfl rfl (by assumption)) ?_ | refine x_e (ev_strNe0 rfl rfl rfl (by assumption)) ?_ | refine x_q H ?_ | refine x_cm (fun h => ?_) (fun h => ?_) | refine x_e (ev_strLen rfl rfl) ?_ | refine x_e (ev_strHead rfl rfl rfl (by assumption)) ?_ | refine x_e (ev_strTail rfl rfl rfl (by assumption)) ?_ | (revert H; refine x_s2 ?_; intro w1 hf H hk; clear hf; change Kp _ _ at hk) | (revert H; (first | (refine x_g ?_; intro g w1 hg hf H) | (refine x_s ?_; intro w1 hf H)); (first | replace hf := hf.kp | clear hf)))
                go_roundg rest2.length
                case measure => have := Hlen.out; have := Hlt.out; omega
                case rel => exact ⟨pre ++ gr, rest2, _, _, rfl, rfl, HP2, hid rfl, Hm2, hid (lr HL8), by (refine Hp.arr H ?_; repeat (first | exact Pm.nil _ | (apply Pm.cons; · (repeat first | exact Rm.here _ | apply Rm.there))))⟩
          · go_wp2_with (first | refine x_e (ev_strEq0 rfl rfl rfl (by assumption)) ?_ | refine x_e (ev_strNe0 rfl rfl rfl (by assumption)) ?_ | refine x_q H ?_ | refine x_cm (fun h => ?_) (fun h => ?_) | refine x_e (ev_strLen rfl rfl) ?_ | refine x_e (ev_strHead rfl rfl rfl (by assumption)) ?_ | refine x_e (ev_strTail rfl rfl rfl (by assumption)) ?_ | (revert H; refine x_s2 ?_; intro w1 hf H hk; clear hf; change Kp _ _ at hk) | (revert H; (first | (refine x_g ?_; intro g w1 hg hf H) | (refine x_s ?_; intro w1 hf H)); (first | replace hf := hf.kp | clear hf)))
            (refine x_c H (notDigs_any _ _ HD0) ?_; clear H; rintro e w1 ⟨rfl, hF⟩ H; replace hF := hF.kp; skip)
            go_wp2_with (first | refine x_e (ev_strEq0 rfl rfl rfl (by assumption)) ?_ | refine x_e (ev_strNe0 rfl rfl rfl (by assumption)) ?_ | refine x_q H ?_ | refine x_cm (fun h => ?_) (fun h => ?_) | refine x_e (ev_strLen rfl rfl) ?_ | refine x_e (ev_strHead rfl rfl rfl (by assumption)) ?_ | refine x_e (ev_strTail rfl rfl rfl (by assumption)) ?_ | (revert H; refine x_s2 ?_; intro w1 hf H hk; clear hf; change Kp _ _ at hk) | (revert H; (first | (refine x_g ?_; intro g w1 hg hf H) | (refine x_s ?_; intro w1 hf H)); (first | replace hf := hf.kp | clear hf)))
            refine c_postCT H rfl rfl rfl rfl ?_
            rw [HZ.out (.inr (by have h := hbx.out; simpa using h))]
            exact ⟨_, rfl, H.fr, (bv_zero _).mono (Nat.zero_le _)⟩
        · go_wp2_with (first | refine x_e (ev_strEq0 rfl rfl rfl (by assumption)) ?_ | refine x_e (ev_strNe0 rfl rfl rfl (by assumption)) ?_ | refine x_q H ?_ | refine x_cm (fun h => ?_) (fun h => ?_) | refine x_e (ev_strLen rfl rfl) ?_ | refine x_e (ev_strHead rfl rfl rfl (by assumption)) ?_ | refine x_e (ev_strTail rfl rfl rfl (by assumption)) ?_ | (revert H; refine x_s2 ?_; intro w1 hf H hk; clear hf; change Kp _ _ at hk) | (revert H; (first | (refine x_g ?_; intro g w1 hg hf H) | (refine x_s ?_; intro w1 hf H)); (first | replace hf := hf.kp | clear hf)))
          refine c_postCT H rfl rfl rfl rfl ?_
          rw [HZ.out (.inl (by have h := hbe.out; simpa using h))]
          exact ⟨_, rfl, H.fr, (bv_zero _).mono (Nat.zero_le _)⟩
    · have HT1 := hid (show s.drop (1 : Int).toNat = b by have h := HT.out; simpa using h)
      have hn2 := (show 1 ≤ s.length by have h := hn1.out; simpa using h)
      clear HT HS hn1
      cases e0
      · cases d0
        · go_wp2_with (first | refine x_e (ev_strEq0 rfl rfl rfl (by assumption)) ?_ | refine x_e (ev_strNe0 rfl rfl rfl (by assumption)) ?_ | refine x_q H ?_ | refine x_cm (fun h => ?_) (fun h => ?_) | refine x_e (ev_strLen rfl rfl) ?_ | refine x_e (ev_strHead rfl rfl rfl (by assumption)) ?_ | refine x_e (ev_strTail rfl rfl rfl (by assumption)) ?_ | (revert H; refine x_s2 ?_; intro w1 hf H hk; clear hf; change Kp _ _ at hk) | (revert H; (first | (refine x_g ?_; intro g w1 hg hf H) | (refine x_s ?_; intro w1 hf H)); (first | replace hf := hf.kp | clear hf)))
          (refine x_c H (notDigs_any _ _ HD0) ?_; clear H; rintro e w1 ⟨rfl, hF⟩ H; replace hF := hF.kp; skip)
          go_wp2_with (first | refine x_e (ev_strEq0 rfl rfl rfl (by assumption)) ?_ | refine x_e (ev_strNe0 rfl rfl rfl (by assumption)) ?_ | refine x_q H ?_ | refine x_cm (fun h => ?_) (fun h => ?_) | refine x_e (ev_strLen rfl rfl) ?_ | refine x_e (ev_strHead rfl rfl rfl (by assumption)) ?_ | refine x_e (ev_strTail rfl rfl rfl (by assumption)) ?_ | (revert H; refine x_s2 ?_; intro w1 hf H hk; clear hf; change Kp _ _ at hk) | (revert H; (first | (refine x_g ?_; intro g w1 hg hf H) | (refine x_s ?_; intro w1 hf H)); (first | replace hf := hf.kp | clear hf)))
          have Hall := hid (show b.all dig = true by have h := hbd.out; simpa using h)
          have HV2 := hid (HV.out (by have h := hb0.out; simpa using h) Hall.out)
          clear HZ hb0 hbe hbd hbx HV HE0 HD0 Hh1 Hh2
          go_loopg [0, 5] b.length (fun kk s0 s5 wr => ∃ (pre rest : List UInt8) (p5 : Option Addr) (c5 : Nat), s0 = strV rest ∧ s5 = .slice p5 (digs (num pre)).length c5 ∧ Hid (pre ++ rest = b) ∧ Hid (rest.length = kk) ∧ Hid (pre = [] ∨ rest.length % 9 = 0) ∧ Hid (LR wr p5 c5 (digs (num pre))) ∧ Hp [] w wr [.blk g [.bool false, .slice none 0 0] 24])
          case atStart => exact ⟨[], b, none, 0, rfl, by rw [num_nil, digs_zero]; rfl, hid rfl, hid rfl, hid (.inl rfl), hid (by rw [num_nil, digs_zero]; exact LR.zero _), H⟩
          case round =>
            clear H
            obtain ⟨pre, rest, p5, c5, rfl, rfl, Hpre, Hlen, Hmod, HL5, H⟩ := hrel
            have hrl : pre.length + rest.length ≤ 1024 := by have h := congrArg List.length Hpre.out; rw [List.length_append] at h; omega
            have Hap : Hid (pre.all dig = true ∧ rest.all dig = true) := hid (by have h := Hall.out; rw [← Hpre.out, List.all_append, Bool.and_eq_true] at h; exact h)
            have hdl := num_len Hap.out.1
            by_cases hre : rest = []
            · have HR0 : Hid ((rest == []) = true) := hid (by rw [hre]; rfl)
              have HQ : Hid (pre = b) := hid (by have h := Hpre.out; rw [hre, List.append_nil] at h; exact h)
              clear hre
              go_wp2_with (first | refine x_e (ev_strEq0 rfl rfl rfl (by assumption)) ?_ | refine x_e (ev_strNe0 rfl rfl rfl (by assumption)) ?_ | refine x_q H ?_ | refine x_cm (fun h => ?_) (fun h => ?_) | refine x_e (ev_strLen rfl rfl) ?_ | refine x_e (ev_strHead rfl rfl rfl (by assumption)) ?_ | refine x_e (ev_strTail rfl rfl rfl (by assumption)) ?_ | (revert H; refine x_s2 ?_; intro w1 hf H hk; clear hf; change Kp _ _ at hk) | (revert H; (first | (refine x_g ?_; intro g w1 hg hf H) | (refine x_s ?_; intro w1 hf H)); (first | replace hf := hf.kp | clear hf)))
              (refine x_c H (big_bv true (digs (num pre)) rfl (lr HL5) 1024 (by omega)) ?_; clear H; rintro e w1 ⟨v6, rfl, hF, hB⟩ H; replace hF := hF.kp; rw [val_digs, HQ.out] at hB; obtain ⟨b6, p6, m6, c6, rfl⟩ := hB.form; have HB6 := hid hB; clear hB)
              go_wp2_with (first | refine x_e (ev_strEq0 rfl rfl rfl (by assumption)) ?_ | refine x_e (ev_strNe0 rfl rfl rfl (by assumption)) ?_ | refine x_q H ?_ | refine x_cm (fun h => ?_) (fun h => ?_) | refine x_e (ev_strLen rfl rfl) ?_ | refine x_e (ev_strHead rfl rfl rfl (by assumption)) ?_ | refine x_e (ev_strTail rfl rfl rfl (by assumption)) ?_ | (revert H; refine x_s2 ?_; intro w1 hf H hk; clear hf; change Kp _ _ at hk) | (revert H; (first | (refine x_g ?_; intro g w1 hg hf H) | (refine x_s ?_; intro w1 hf H)); (first | replace hf := hf.kp | clear hf)))
              refine c_postCT H rfl rfl rfl rfl ?_
              rw [HV2.out]
              exact ⟨_, rfl, H.fr, bv HB6⟩
            · have HR0 : Hid ((rest == []) = false) := hid (by simpa using hre)
              have hpos : 1 ≤ rest.length := by cases rest with
                | nil => exact absurd rfl hre
                | cons x r => simp
              obtain ⟨m, hm⟩ : ∃ m, (rest.length - 1) % 9 + 1 = m := ⟨_, rfl⟩
              have hmz : (((rest.length : Int) - 1) % 9 + 1).toNat = m := by omega
              have hm9 : m ≤ 9 := by omega
              have hmr : m ≤ rest.length := by omega
              obtain ⟨gr, hgr⟩ : ∃ g, rest.take m = g := ⟨_, rfl⟩
              obtain ⟨rest2, hr2⟩ : ∃ r, rest.drop m = r := ⟨_, rfl⟩
              have HG : Hid (rest.take (((rest.length : Int) - 1) % 9 + 1).toNat = gr) := hid (by rw [hmz]; exact hgr)
              have HD : Hid (rest.drop (((rest.length : Int) - 1) % 9 + 1).toNat = rest2) := hid (by rw [hmz]; exact hr2)
              have Hsp : Hid (rest = gr ++ rest2) := hid (by rw [← hgr, ← hr2, List.take_append_drop])
              have hgl : gr.length = m := by rw [← hgr, List.length_take]; omega
              have hgl9 : gr.length ≤ 18 := by omega
              have hgl1 : gr.length + rest2.length ≤ rest.length := by rw [Hsp.out, List.length_append]; exact Nat.le_refl _
              have Hg2 : Hid (gr.all dig = true ∧ rest2.all dig = true) := hid (by have h := Hap.out.2; rw [Hsp.out, List.all_append, Bool.and_eq_true] at h; exact h)
              have Hga := hid Hg2.out.1
              have Hgn : Hid (gr ≠ []) := hid (fun e => by rw [e] at hgl; simp at hgl; omega)
              have hv9 : num gr < 1000000000 := Nat.lt_of_lt_of_le (num_lt gr Hga.out) (by rw [hgl]; exact Nat.le_trans (Nat.pow_le_pow_right (n := 10) (by decide) hm9) (by decide))
              have hd1 : (digs (num pre * 1000000000)).length ≤ 1100 := by
                refine Nat.le_trans (digs_len_of (k := (digs (num pre)).length + 1) ?_) (by omega)
                rw [Nat.pow_succ]
                exact Nat.mul_lt_mul'' (digs_lt _) (by decide)
              have hd2 : (digs (num gr)).length ≤ 1 := digs_len_of (by omega)
              have HNum : Hid (num pre * 1000000000 + num gr = num (pre ++ gr)) := hid (by
                rw [num_app]
                rcases Hmod.out with h | h
                · rw [h, num_nil, Nat.zero_mul, Nat.zero_mul]
                · have e : gr.length = 9 := by omega
                  rw [e])
              have Hm2 : Hid (pre ++ gr = [] ∨ rest2.length % 9 = 0) := hid (.inr (by
                have h : rest.length = gr.length + rest2.length := by rw [Hsp.out, List.length_append]
                omega))
              have HP2 : Hid ((pre ++ gr) ++ rest2 = b) := hid (by rw [List.append_assoc, ← Hsp.out]; exact Hpre.out)
              have hlt : rest2.length < rest.length := by
                have h : rest.length = gr.length + rest2.length := by rw [Hsp.out, List.length_append]
                omega
              have Hlt := hid hlt
              clear hre hm hmz hgr hr2 hlt Hmod Hpre hgl
              go_wp2_with (first | refine x_e (ev_strEq0 rfl rfl rfl (by assumption)) ?_ | refine x_e (ev_strNe0 rfl rfl rfl (by assumption)) ?_ | refine x_q H ?_ | refine x_cm (fun h => ?_) (fun h => ?_) | refine x_e (ev_strLen rfl rfl) ?_ | refine x_e (ev_strHead rfl rfl rfl (by assumption)) ?_ | refine x_e (ev_strTail rfl rfl rfl (by assumption)) ?_ | (revert H; refine x_s2 ?_; intro w1 hf H hk; clear hf; change Kp _ _ at hk) | (revert H; (first | (refine x_g ?_; intro g w1 hg hf H) | (refine x_s ?_; intro w1 hf H)); (first | replace hf := hf.kp | clear hf)))
              (refine x_c H (atoi_any _ gr Hga Hgn hgl9) ?_; clear H; rintro e w1 ⟨rfl, hF⟩ H; replace hF := hF.kp; skip)
              go_wp2_with (first | refine x_e (ev_strEq0 rfl rfl rfl (by assumption)) ?_ | refine x_e (ev_strNe0 rfl rfl rfl (by assumption)) ?_ | refine x_q H ?_ | refine x_cm (fun h => ?_) (fun h => ?_) | refine x_e (ev_strLen rfl rfl) ?_ | refine x_e (ev_strHead rfl rfl rfl (by assumption)) ?_ | refine x_e (ev_strTail rfl rfl rfl (by assumption)) ?_ | (revert H; refine x_s2 ?_; intro w1 hf H hk; clear hf; change Kp _ _ at hk) | (revert H; (first | (refine x_g ?_; intro g w1 hg hf H) | (refine x_s ?_; intro w1 hf H)); (first | replace hf := hf.kp | clear hf)))
              have HO := hid (LR.of_blk (l := [1000000000]) (c := 1) (pad := []) (by have := H.at g; simpa [limbs] using this) (Lim.cons (by decide) Lim.nil) (by simp) (by unfold maxLen; omega))
              (refine x_c H (times_any (digs (num pre)) [1000000000] rfl rfl (by omega) (by simp) (lr HL5) HO.out) ?_; clear H; rintro e w1 ⟨p6, c6, rfl, hF, hL⟩ H; replace hF := hF.kp; rw [val_digs, val_sing] at hL; have HL6 := hid hL; clear hL)
              rw [val_digs, val_sing]
              go_wp2_with (first | refine x_e (ev_strEq0 rfl rfl rfl (by assumption)) ?_ | refine x_e (ev_strNe0 rfl rfl rfl (by assumption)) ?_ | refine x_q H ?_ | refine x_cm (fun h => ?_) (fun h => ?_) | refine x_e (ev_strLen rfl rfl) ?_ | refine x_e (ev_strHead rfl rfl rfl (by assumption)) ?_ | refine x_e (ev_strTail rfl rfl rfl (by assumption)) ?_ | (revert H; refine x_s2 ?_; intro w1 hf H hk; clear hf; change Kp _ _ at hk) | (revert H; (first | (refine x_g ?_; intro g w1 hg hf H) | (refine x_s ?_; intro w1 hf H)); (first | replace hf := hf.kp | clear hf)))
              have HO2 := hid (LR.of_blk (l := [num gr]) (c := 1) (pad := []) (by have := H.at g; simpa [limbs] using this) (Lim.cons (by omega) Lim.nil) (by simp) (by unfold maxLen; omega))
              (refine x_c H (trim_any [num gr] rfl HO2.out) ?_; clear H; rintro e w1 ⟨rfl, hF⟩ H; replace hF := hF.kp; skip)
              have HT2 := hid (show LR _ _ _ (digs (num gr)) by have h := (lr HO2).trim; rw [val_sing] at h; exact h)
              rw [val_sing]
              go_wp2_with (first | refine x_e (ev_strEq0 rfl rfl rfl (by assumption)) ?_ | refine x_e (ev_strNe0 rfl rfl rfl (by assumption)) ?_ | refine x_q H ?_ | refine x_cm (fun h => ?_) (fun h => ?_) | refine x_e (ev_strLen rfl rfl) ?_ | refine x_e (ev_strHead rfl rfl rfl (by assumption)) ?_ | refine x_e (ev_strTail rfl rfl rfl (by assumption)) ?_ | (revert H; refine x_s2 ?_; intro w1 hf H hk; clear hf; change Kp _ _ at hk) | (revert H; (first | (refine x_g ?_; intro g w1 hg hf H) | (refine x_s ?_; intro w1 hf H)); (first | replace hf := hf.kp | clear hf)))
              (refine x_c H (plus_any (digs (num pre * 1000000000)) (digs (num gr)) rfl rfl (by omega) (by omega) (lr HL6) (lr HT2)) ?_; clear H; rintro e w1 ⟨p8, c8, rfl, hF, hL⟩ H; replace hF := hF.kp; rw [val_digs, val_digs, HNum.out] at hL; have HL8 := hid hL; clear hL)
              rw [val_digs, val_digs, HNum.out]
              go_wp2_with (first | refine x_e (ev_strEq0 rfl rfl rfl (by assumption)) ?_ | refine x_e (ev_strNe0 rfl rfl rfl (by assumption)) ?_ | refine x_q H ?_ | refine x_cm (fun h => ?_) (fun h => ?_) | refine x_e (ev_strLen rfl rfl) ?_ | refine x_e (ev_strHead rfl rfl rfl (by assumption)) ?_ | refine x_e (ev_strTail rfl rfl rfl (by assumption)) ?_ | (revert H; refine x_s2 ?_; intro w1 hf H hk; clear hf; change Kp _ _ at hk) | (revert H; (first | (refine x_g ?_; intro g w1 hg hf H) | (refine x_s ?_; intro w1 hf H)); (first | replace hf := hf.kp | clear hf)))
              go_roundg rest2.length
              case measure => have := Hlen.out; have := Hlt.out; omega
              case rel => exact ⟨pre ++ gr, rest2, _, _, rfl, rfl, HP2, hid rfl, Hm2, hid (lr HL8), by (refine Hp.arr H ?_; repeat (first | exact Pm.nil _ | (apply Pm.cons; · (repeat first | exact Rm.here _ | apply Rm.there))))⟩
        · go_wp2_with (first | refine x_e (ev_strEq0 rfl rfl rfl (by assumption)) ?_ | refine x_e (ev_strNe0 rfl rfl rfl (by assumption)) ?_ | refine x_q H ?_ | refine x_cm (fun h => ?_) (fun h => ?_) | refine x_e (ev_strLen rfl rfl) ?_ | refine x_e (ev_strHead rfl rfl rfl (by assumption)) ?_ | refine x_e (ev_strTail rfl rfl rfl (by assumption)) ?_ | (revert H; refine x_s2 ?_; intro w1 hf H hk; clear hf; change Kp _ _ at hk) | (revert H; (first | (refine x_g ?_; intro g w1 hg hf H) | (refine x_s ?_; intro w1 hf H)); (first | replace hf := hf.kp | clear hf)))
          (refine x_c H (notDigs_any _ _ HD0) ?_; clear H; rintro e w1 ⟨rfl, hF⟩ H; replace hF := hF.kp; skip)
          go_wp2_with (first | refine x_e (ev_strEq0 rfl rfl rfl (by assumption)) ?_ | refine x_e (ev_strNe0 rfl rfl rfl (by assumption)) ?_ | refine x_q H ?_ | refine x_cm (fun h => ?_) (fun h => ?_) | refine x_e (ev_strLen rfl rfl) ?_ | refine x_e (ev_strHead rfl rfl rfl (by assumption)) ?_ | refine x_e (ev_strTail rfl rfl rfl (by assumption)) ?_ | (revert H; refine x_s2 ?_; intro w1 hf H hk; clear hf; change Kp _ _ at hk) | (revert H; (first | (refine x_g ?_; intro g w1 hg hf H) | (refine x_s ?_; intro w1 hf H)); (first | replace hf := hf.kp | clear hf)))
          refine c_postCT H rfl rfl rfl rfl ?_
          rw [HZ.out (.inr (by have h := hbx.out; simpa using h))]
          exact ⟨_, rfl, H.fr, (bv_zero _).mono (Nat.zero_le _)⟩
      · go_wp2_with (first | refine x_e (ev_strEq0 rfl rfl rfl (by assumption)) ?_ | refine x_e (ev_strNe0 rfl rfl rfl (by assumption)) ?_ | refine x_q H ?_ | refine x_cm (fun h => ?_) (fun h => ?_) | refine x_e (ev_strLen rfl rfl) ?_ | refine x_e (ev_strHead rfl rfl rfl (by assumption)) ?_ | refine x_e (ev_strTail rfl rfl rfl (by assumption)) ?_ | (revert H; refine x_s2 ?_; intro w1 hf H hk; clear hf; change Kp _ _ at hk) | (revert H; (first | (refine x_g ?_; intro g w1 hg hf H) | (refine x_s ?_; intro w1 hf H)); (first | replace hf := hf.kp | clear hf)))
        refine c_postCT H rfl rfl rfl rfl ?_
        rw [HZ.out (.inl (by have h := hbe.out; simpa using h))]
        exact ⟨_, rfl, H.fr, (bv_zero _).mono (Nat.zero_le _)⟩
end Go.Proofs.YtpmebjhlgdhchaaDoor
