import Derived.Test.YtbiohhmpclnpgaaGreatDoorXSh3
import Derived.Test.YtbiohhmpclnpgaaGreatDoorXIw32
import Derived.Lib.AtoiErrMem
import Derived.Deep.LoopGhost
namespace Go.Proofs.YtbiohhmpclnpgaaGreatDoor
open Go.RowKit
set_option linter.unusedSimpArgs false
set_option linter.unusedVariables false
abbrev dec (n : Nat) : List UInt8 := Lib.decDigits n
theorem dec_small {n : Nat} (h : n < 10) : dec n = [UInt8.ofNat (48 + n)] := by unfold dec; rw [Lib.decDigits, dif_pos h]
theorem dec_ten {n : Nat} (h : 10 ≤ n) : dec n = dec (n / 10) ++ [UInt8.ofNat (48 + n % 10)] := by unfold dec; rw [Lib.decDigits, dif_neg (by omega)]
def padk : Nat → Nat → List UInt8
 | 0, _ => []
 | k + 1, r => padk k (r / 10) ++ [UInt8.ofNat (48 + r % 10)]
theorem dec_join {q : Nat} (hq : 0 < q) : ∀ (k r : Nat), r < 10 ^ k → dec (q * 10 ^ k + r) = dec q ++ padk k r
 | 0, r, h => by
  have : r = 0 := by simpa using h
  subst this
  simp [padk]
 | k + 1, r, h => by
  have hp : 1 ≤ 10 ^ k := Nat.one_le_pow _ _ (by decide)
  have h1 : 1 * (10 ^ k * 10) ≤ q * (10 ^ k * 10) := Nat.mul_le_mul_right _ hq
  rw [Nat.pow_succ] at h ⊢
  have e : q * (10 ^ k * 10) + r = 10 * (q * 10 ^ k + r / 10) + r % 10 := by
   rw [Nat.mul_add, Nat.mul_comm (10 ^ k), Nat.mul_left_comm]
   omega
  generalize hQ : q * 10 ^ k = Q at e
  have e1 : (q * (10 ^ k * 10) + r) / 10 = q * 10 ^ k + r / 10 := by rw [e, hQ]; omega
  have e2 : (q * (10 ^ k * 10) + r) % 10 = r % 10 := by rw [e]; omega
  rw [dec_ten (by omega), e1, e2, padk, ← List.append_assoc, ← dec_join hq k (r / 10) (by omega)]
theorem padk_eq : ∀ (k r : Nat), r < 10 ^ (k + 1) → (dec r).length ≤ k + 1 ∧ padk (k + 1) r = List.replicate (k + 1 - (dec r).length) 48 ++ dec r
 | 0, r, h => by
  have h : r < 10 := by simpa using h
  rw [dec_small h]
  refine ⟨by simp, ?_⟩
  simp [padk, Nat.mod_eq_of_lt h]
 | k + 1, r, h => by
  by_cases h10 : r < 10
  ·rw [dec_small h10]
   refine ⟨by simp, ?_⟩
   have h0 := (padk_eq k 0 (Nat.pow_pos (by decide))).2
   rw [padk, show r / 10 = 0 by omega, h0, dec_small (by decide), Nat.mod_eq_of_lt h10]
   simp only [List.length_cons, List.length_nil, Nat.add_sub_cancel, Nat.zero_add]
   rw [show UInt8.ofNat 48 = 48 from rfl, show k + 1 = k + 1 from rfl, List.replicate_succ']
  ·rw [Nat.pow_succ] at h
   obtain ⟨h1, h2⟩ := padk_eq k (r / 10) (by omega)
   rw [dec_ten (by omega)]
   refine ⟨by simp only [List.length_append, List.length_cons, List.length_nil]; omega, ?_⟩
   rw [padk, h2]
   simp only [List.length_append, List.length_cons, List.length_nil, List.append_assoc]
   rw [show k + 1 + 1 - ((dec (r / 10)).length + (0 + 1)) = k + 1 - (dec (r / 10)).length by omega]
def pad9 (r : Nat) : List UInt8 := List.replicate (9 - (dec r).length) 48 ++ dec r
theorem dec_len9 {r : Nat} (h : r < 1000000000) : (dec r).length ≤ 9 := (padk_eq 8 r (by simpa using h)).1
theorem dec_group {q r : Nat} (hq : 0 < q) (h : r < 1000000000) : dec (q * 1000000000 + r) = dec q ++ pad9 r := by
 have h1 := dec_join hq 9 r (by simpa using h)
 rw [(padk_eq 8 r (by simpa using h)).2] at h1
 exact h1
theorem pad9_len {r : Nat} (h : r < 1000000000) : (pad9 r).length = 9 := by
 have := dec_len9 h
 unfold pad9
 rw [List.length_append, List.length_replicate]
 omega
structure Dg (N n X : Nat) (gs : List (List UInt8)) : Prop where
 len : gs.length ≤ 32 * n
 one : ∀ g ∈ gs, g.length ≤ 9
 x : X = N / 1000000000 ^ gs.length
 nz : gs ≠ [] → N ≠ 0
 d : dec N = (if X = 0 ∧ gs ≠ [] then [] else dec X) ++ gs.reverse.flatten
theorem Dg.start (N n : Nat) : Dg N n N [] := ⟨by simp, fun g hg => (by cases hg), by simp, fun h => absurd rfl h, by simp⟩
def grp (X : Nat) : List UInt8 := if X / 1000000000 = 0 then dec (X % 1000000000) else pad9 (X % 1000000000)
theorem pow9_ge (k : Nat) : 2 ^ k ≤ 1000000000 ^ k := Nat.pow_le_pow_left (by decide) k
theorem Dg.next {N n X : Nat} {gs : List (List UInt8)} (h : Dg N n X gs) (hN : N < 4294967296 ^ n) (hX : X ≠ 0) : Dg N n (X / 1000000000) (gs ++ [grp X]) := by
 have hN0 : N ≠ 0 := fun e => by have := h.x; rw [e, Nat.zero_div] at this; exact hX this
 have hr : X % 1000000000 < 1000000000 := Nat.mod_lt _ (by decide)
 refine ⟨?_, ?_, ?_, fun _ => hN0, ?_⟩
 ·have h1 : 1000000000 ^ gs.length ≤ N := by
   apply Classical.byContradiction
   intro hn
   have := h.x
   rw [Nat.div_eq_of_lt (by omega)] at this
   exact hX this
  have h2 := pow9_ge gs.length
  rw [powB] at hN
  have h3 : 2 ^ gs.length < 2 ^ (32 * n) := by omega
  have h4 := (Nat.pow_lt_pow_iff_right (show 1 < 2 by decide)).1 h3
  rw [List.length_append, List.length_cons, List.length_nil]
  omega
 ·intro g hg
  rcases List.mem_append.1 hg with h1 | h1
  ·exact h.one g h1
  ·simp only [List.mem_singleton] at h1
   subst h1
   unfold grp
   split
   ·exact dec_len9 hr
   ·exact Nat.le_of_eq (pad9_len hr)
 ·rw [List.length_append, List.length_cons, List.length_nil, Nat.pow_succ, ← Nat.div_div_eq_div_mul, ← h.x]
 ·rw [h.d, if_neg (fun e => hX e.1), List.reverse_append, List.reverse_singleton, List.singleton_append, List.flatten_cons, ← List.append_assoc]
  congr 1
  unfold grp
  by_cases hq : X / 1000000000 = 0
  ·rw [if_pos ⟨hq, by simp⟩, if_pos hq, List.nil_append]
   congr 1
   omega
  ·rw [if_neg (fun e => hq e.1), if_neg hq, ← dec_group (by omega) hr]
   congr 1
   omega
theorem Dg.bytes {N n X : Nat} {gs : List (List UInt8)} (h : Dg N n X gs) : gs.flatten.length ≤ 9 * gs.length := by
 have : ∀ (l : List (List UInt8)), (∀ g ∈ l, g.length ≤ 9) → l.flatten.length ≤ 9 * l.length := by
  intro l
  induction l with
  | nil => intro _; simp
  | cons a l ih =>
   intro h
   have h1 := ih (fun g hg => h g (List.mem_cons_of_mem _ hg))
   have h2 := h a List.mem_cons_self
   rw [List.flatten_cons, List.length_append, List.length_cons]
   omega
 exact this gs h.one
section
variable {P : Program} {w : World} {a : Act} {o : Oper}
theorem ev_strAdd {t t' : TypeId} {x y : Operand} (ho : o.op = .binOp .add t x y t') {s r : List UInt8} (hx : a.eval x = strV s) (hy : a.eval y = strV r) (hl : s.length + r.length ≤ 1000000000) : (execOp a.eval o).run P w = .ok (.value (strV (s ++ r))) w := by
 have e1 : (eqGuard .add t x y (strV s) (strV r)).run P w = .ok () w := by unfold eqGuard; simp
 unfold execOp
 simp only [ho, hx, hy, Sem.run_bind, e1, Result.andThen_ok, binOp]
 have e : (⟨s.toArray⟩ : ByteArray) ++ ⟨r.toArray⟩ = ⟨(s ++ r).toArray⟩ := by
  apply ByteArray.ext
  simp [ByteArray.data_append]
 have e2 : (Op.stringOp .add ⟨s.toArray⟩ ⟨r.toArray⟩).run P w = .ok (strV (s ++ r)) w := by
  unfold Op.stringOp
  have hn : ¬ (((ByteArray.mk s.toArray).size + (ByteArray.mk r.toArray).size : Nat) : Int) > IntKind.i64.max := by
   show ¬ (((s.toArray.size + r.toArray.size : Nat) : Int) > 9223372036854775807)
   simp only [List.size_toArray]
   omega
  simp only [if_neg hn, e]
  rfl
 show ((Op.stringOp .add ⟨s.toArray⟩ ⟨r.toArray⟩).run P w).andThen _ = _
 rw [e2]
 rfl
end
end Go.Proofs.YtbiohhmpclnpgaaGreatDoor
namespace Go.Proofs.YtbiohhmpclnpgaaGreatDoor
open Go.RowKit
set_option linter.unusedSimpArgs false
set_option linter.unusedVariables false
def fmt (z : Int) : List UInt8 := if z < 0 then 45 :: dec z.natAbs else dec z.natAbs
end Go.Proofs.YtbiohhmpclnpgaaGreatDoor
namespace Go.Proofs.YtbiohhmpclnpgaaGreatDoor
open Go.RowKit
set_option linter.unusedSimpArgs false
set_option linter.unusedVariables false
def dig (b : UInt8) : Bool := 48 ≤ b.toNat && b.toNat ≤ 57
def notDig (x : Nat) : Bool := decide (x < 48) || decide (57 < x)
def numS (a : Nat) (b : UInt8) : Nat := a * 10 + (b.toNat - 48)
def numF (a : Nat) (l : List UInt8) : Nat := l.foldl numS a
def num (l : List UInt8) : Nat := numF 0 l
theorem numF_cons (a : Nat) (b : UInt8) (r : List UInt8) : numF a (b :: r) = numF (numS a b) r := by unfold numF; rw [List.foldl_cons]
theorem numF_eq (l : List UInt8) : ∀ a : Nat, numF a l = a * 10 ^ l.length + numF 0 l := by
 induction l with
 | nil =>
  intro a
  show a = a * 1 + 0
  omega
 | cons b r ih =>
  intro a
  have h1 := ih (numS a b)
  have h2 := ih (numS 0 b)
  have e1 : numS a b = a * 10 + numS 0 b := by unfold numS; omega
  have e2 : a * 10 * 10 ^ r.length = a * 10 ^ (r.length + 1) := by rw [Nat.pow_succ, Nat.mul_assoc, Nat.mul_comm 10]
  rw [e1, Nat.add_mul, e2] at h1
  rw [numF_cons, numF_cons, List.length_cons, e1, h1, Nat.add_assoc, h2]
theorem numF_app (l m : List UInt8) (a : Nat) : numF a (l ++ m) = numF (numF a l) m := List.foldl_append
theorem num_app (l m : List UInt8) : num (l ++ m) = num l * 10 ^ m.length + num m := by
 unfold num
 rw [numF_app, numF_eq m]
theorem dig_le {b : UInt8} (h : dig b = true) : 48 ≤ b.toNat ∧ b.toNat ≤ 57 := by unfold dig at h; simpa using h
theorem num_one (b : UInt8) : num [b] = b.toNat - 48 := by
 show numS 0 b = _
 unfold numS
 omega
theorem num_lt : ∀ (l : List UInt8), l.all dig = true → num l < 10 ^ l.length
 | [], _ => Nat.one_pos
 | b :: r, h => by
  rw [List.all_cons, Bool.and_eq_true] at h
  have h1 := dig_le h.1
  have h2 := num_lt r h.2
  rw [show b :: r = [b] ++ r from rfl, num_app, num_one, List.length_append, List.length_cons, List.length_nil, Nat.pow_add, Nat.zero_add, Nat.pow_one]
  have h3 : (b.toNat - 48) * 10 ^ r.length ≤ 9 * 10 ^ r.length := Nat.mul_le_mul_right _ (by omega)
  omega
theorem decFrom_num : ∀ (l : List UInt8) (a : Nat), l.all dig = true → Lib.decFrom a l = some (numF a l)
 | [], a, _ => rfl
 | b :: r, a, h => by
  rw [List.all_cons, Bool.and_eq_true] at h
  have h1 := dig_le h.1
  rw [Lib.decFrom, Lib.digitVal, if_pos h1]
  exact decFrom_num r _ h.2
theorem atoi_num {l : List UInt8} (h : l.all dig = true) (hn : l ≠ []) : Lib.atoi l = some (num l : Int) := by
 cases l with
 | nil => exact absurd rfl hn
 | cons b r =>
  have h0 := h
  rw [List.all_cons, Bool.and_eq_true] at h
  have h1 := dig_le h.1
  have e1 : (b == 45) = false := by
   rw [beq_eq_false_iff_ne]
   intro e
   subst e
   have h2 := h1.1
   simp at h2
  have e2 : (b == 43) = false := by
   rw [beq_eq_false_iff_ne]
   intro e
   subst e
   have h2 := h1.1
   simp at h2
  rw [Lib.atoi, e1, e2]
  simp only [Bool.false_eq_true, if_false, Lib.decNat, List.isEmpty_cons, decFrom_num _ 0 h0, Option.map_some]
  rfl
theorem decode_low {s : ByteArray} {i : Nat} (h : (s.get! i).toNat < 128) : Utf8.decode s i = ((s.get! i).toNat, 1) := by
 unfold Utf8.decode
 simp only [Nat.add_zero]
 rw [if_pos h]
theorem decode_high {s : ByteArray} {i : Nat} (h : ¬ (s.get! i).toNat < 128) : 57 < (Utf8.decode s i).1 := by
 unfold Utf8.decode
 simp only [Nat.add_zero]
 rw [if_neg h]
 have hr : 57 < Utf8.runeError := by decide
 repeat' split
 all_goals first | exact hr | (simp only; omega) | skip
 all_goals
  rename_i hc
  simp only [Bool.and_eq_true, decide_eq_true_eq, ge_iff_le] at hc
  simp only
  omega
theorem get_list (s : List UInt8) (i : Nat) (b : UInt8) (h : s[i]? = some b) : (ByteArray.mk s.toArray).get! i = b := by
 obtain ⟨h1, e⟩ := List.getElem?_eq_some_iff.1 h
 show (s.toArray)[i]! = b
 simp [h1, e]
theorem idx_from (s : List UInt8) : ∀ (f pos : Nat), s.length ≤ pos + f → decide (0 ≤ Lib.idxFuncFrom notDig true ⟨s.toArray⟩ f pos) = !((s.drop pos).all dig)
 | 0, pos, hf => by
  rw [List.drop_eq_nil_of_le (by omega)]
  rfl
 | f + 1, pos, hf => by
  have hsz : (ByteArray.mk s.toArray).size = s.length := by simp [ByteArray.size]
  rw [Lib.idxFuncFrom]
  by_cases hp : pos < s.length
  ·rw [if_pos (by rw [hsz]; exact hp)]
   have hg := get_list s pos s[pos] (List.getElem?_eq_getElem hp)
   rw [List.drop_eq_getElem_cons hp, List.all_cons]
   by_cases hd : dig s[pos] = true
   ·have h1 := dig_le hd
    have hl : ((ByteArray.mk s.toArray).get! pos).toNat < 128 := by rw [hg]; omega
    rw [decode_low hl, hg, hd, Bool.true_and]
    have hn : notDig s[pos].toNat = false := by unfold notDig; simp; omega
    rw [hn, if_neg (by decide)]
    exact idx_from s f (pos + 1) (by omega)
   ·have hn : notDig (Utf8.decode ⟨s.toArray⟩ pos).1 = true := by
     by_cases hl : ((ByteArray.mk s.toArray).get! pos).toNat < 128
     ·rw [decode_low hl, hg]
      unfold dig at hd
      unfold notDig
      simp at hd ⊢
      omega
     ·have := decode_high hl
      unfold notDig
      simp
      omega
    rw [hn, if_pos rfl]
    have hf : dig s[pos] = false := by simpa using hd
    rw [hf]
    simp
  ·rw [if_neg (by rw [hsz]; exact hp), List.drop_eq_nil_of_le (by omega)]
   rfl
theorem idx_digits (s : List UInt8) : decide (0 ≤ Lib.idxFunc notDig true ⟨s.toArray⟩) = !(s.all dig) := by
 have h := idx_from s s.length 0 (by omega)
 rw [List.drop_zero] at h
 have hsz : (ByteArray.mk s.toArray).size = s.length := by simp [ByteArray.size]
 unfold Lib.idxFunc
 rw [hsz]
 exact h
def sgn (s : List UInt8) : Bool := s.head? == some 45
def body (s : List UInt8) : List UInt8 := if s.head? = some 45 ∨ s.head? = some 43 then s.tail else s
def pz (s : List UInt8) : Int × Int :=
 if 1024 < s.length then (0, 2)
 else if body s = [] ∨ (body s).all dig = false then (0, 7)
 else (sg (sgn s) (num (body s)), 0)
theorem dec_digits (n : Nat) : (dec n).all dig = true ∧ num (dec n) = n ∧ dec n ≠ [] := by
 induction n using Nat.strongRecOn with
 | _ n ih =>
  have hb : ∀ d, d < 10 → (UInt8.ofNat (48 + d)).toNat = 48 + d := fun d hd => by
   rw [UInt8.toNat_ofNat']
   exact Nat.mod_eq_of_lt (by omega)
  by_cases h : n < 10
  ·rw [dec_small h]
   refine ⟨?_, ?_, by simp⟩
   ·simp [dig, hb n h]; omega
   ·rw [num_one, hb n h]; omega
  ·obtain ⟨h1, h2, h3⟩ := ih (n / 10) (by omega)
   have hm : n % 10 < 10 := Nat.mod_lt _ (by decide)
   rw [dec_ten (by omega)]
   refine ⟨?_, ?_, by simp⟩
   ·rw [List.all_append, h1]
    simp [dig, hb _ hm]; omega
   ·rw [num_app, h2, num_one, hb _ hm]
    simp
    omega
end Go.Proofs.YtbiohhmpclnpgaaGreatDoor
namespace Go.Proofs.YtbiohhmpclnpgaaGreatDoor
open Go.RowKit
set_option linter.unusedSimpArgs false
set_option linter.unusedVariables false
set_option maxHeartbeats 16000000
set_option maxRecDepth 100000
section
variable {P : Program} {a : Act} {w : World} {o : Oper}
theorem ba_extract (s : List UInt8) (i j : Nat) : (ByteArray.mk s.toArray).extract i j = ⟨((s.take j).drop i).toArray⟩ := by
 apply ByteArray.ext
 simp [ByteArray.data_extract, List.extract_eq_take_drop, List.drop_take]
theorem ba_size (s : List UInt8) : (ByteArray.mk s.toArray).size = s.length := by simp [ByteArray.size]
theorem ev_strLen {x : Operand} {t : TypeId} (ho : o.op = .call { callee := .builtin .len, args := #[x], argTypes := #[t] }) {s : List UInt8} (hx : a.eval x = strV s) [h : Sy P t] : (execOp a.eval o).run P w = .ok (.value (.int .i64 s.length)) w := by
 have := c_lens (P := P) (w := w) ho (s := ⟨s.toArray⟩) hx
 rw [ba_size] at this
 exact this
theorem ev_strHead {t : TypeId} {x y : Operand} (ho : o.op = .slice t x none (some y) none) {s r : List UInt8} (hx : a.eval x = strV s) {k : IntKind} {i : Int} (hy : a.eval y = .int k i) [h : Sy P t] (hr : Hid (s.take i.toNat = r)) (h0 : 0 ≤ i := by omega) (h1 : i ≤ s.length := by omega) : (execOp a.eval o).run P w = .ok (.value (strV r)) w := by
 rw [← hr.out]
 unfold strV at hx
 have e := run_slice_string_h (P := P) w t ⟨s.toArray⟩ h.h k i h0 (by rw [ba_size]; exact h1)
 rw [ba_extract, List.drop_zero] at e
 unfold execOp
 simp only [ho, hx, hy, Option.map_none, Option.map_some, Sem.run_bind, run_sliceAt_string _ _ _ _ _ _ h.h, e, Result.andThen_ok, Sem.run_pure]
 rfl
theorem ev_strTail {t : TypeId} {x y : Operand} (ho : o.op = .slice t x (some y) none none) {s r : List UInt8} (hx : a.eval x = strV s) {k : IntKind} {i : Int} (hy : a.eval y = .int k i) [h : Sy P t] (hr : Hid (s.drop i.toNat = r)) (h0 : 0 ≤ i := by omega) (h1 : i ≤ s.length := by omega) : (execOp a.eval o).run P w = .ok (.value (strV r)) w := by
 rw [← hr.out]
 unfold strV at hx
 have e := run_slice_string_l (P := P) w t ⟨s.toArray⟩ h.h k i h0 (by rw [ba_size]; exact h1)
 rw [ba_extract, ba_size, List.take_length] at e
 unfold execOp
 simp only [ho, hx, hy, Option.map_none, Option.map_some, Sem.run_bind, run_sliceAt_string _ _ _ _ _ _ h.h, e, Result.andThen_ok, Sem.run_pure]
 rfl
theorem ev_strEq0 {t t' : TypeId} {x y : Operand} (ho : o.op = .binOp .eql t x y t') {s : List UInt8} (hx : a.eval x = strV s) (hy : a.eval y = strV []) {b : Bool} (hs : Hid ((s == []) = b)) : (execOp a.eval o).run P w = .ok (.value (.bool b)) w := by
 rw [← hs.out]; exact ev_strEq ho hx hy
theorem ev_strNe0 {t t' : TypeId} {x y : Operand} (ho : o.op = .binOp .neq t x y t') {s : List UInt8} (hx : a.eval x = strV s) (hy : a.eval y = strV []) {b : Bool} (hs : Hid ((s == []) = b)) : (execOp a.eval o).run P w = .ok (.value (.bool (!b))) w := by
 rw [← hs.out]; exact ev_strNe ho hx hy
end
theorem prefix_any (w : World) (s : List UInt8) (c : UInt8) {b : Bool} (hb : Hid ((s.head? == some c) = b)) : Calls Tryz.prog 38 #[strV s, .string (ByteArray.mk #[c])] w fun e w' => e = .returned (.bool b) ∧ Fr [] w w' := by
 refine Calls.mono (Tryz.strings_HasPrefix ⟨s.toArray⟩ (ByteArray.mk #[c]) w) ?_
 rintro e w' ⟨rfl, rfl⟩
 refine ⟨?_, Fr.refl _ _⟩
 rw [← hb.out]
 cases s with
 | nil => rfl
 | cons x r =>
  show Ending.returned (.bool (List.isPrefixOf [c] (x :: r))) = _
  have e : List.isPrefixOf [c] (x :: r) = ((x :: r).head? == some c) := by
   rw [List.isPrefixOf_cons_cons, List.head?_cons, Option.some_beq_some, Bool.beq_comm]
   simp [List.isPrefixOf]
  rw [e]
theorem atoi_any (w : World) (s : List UInt8) (hs : Hid (s.all dig = true)) (hn : Hid (s ≠ [])) (hl : s.length ≤ 18) : Calls Tryz.prog 47 #[strV s] w fun e w' => e = .returned (.tuple #[.int .i64 (num s : Int), .nilIface]) ∧ Fr [] w w' := by
 refine Calls.mono (Tryz.strconv_Atoi ⟨s.toArray⟩ (num s : Int) (by rw [ba_size]; exact hl) (atoi_num hs.out hn.out) w) ?_
 rintro e w' ⟨rfl, t, rfl⟩
 exact ⟨rfl, Fr.of_below (Lib.bytesWorld_below _ _ _)⟩
theorem notDig_any (w : World) (x : Nat) (hx : x ≤ 1114111) : Calls Tryz.prog 46 #[.int .i32 (x : Int)] w fun e w' => e = .returned (.bool (notDig x)) ∧ ∃ q, w' = w.drewN q := by
 by_cases h1 : x < 48
 ·have HB := hid (show notDig x = true by unfold notDig; simp; omega)
  have H4 := hid (show decide ((57 : Int) < (x : Int)) = false from decide_eq_false (by omega))
  go_enter Tryz.func46, Tryz.ntmps46; go_wp2; go_ret; exact ⟨by rw [HB.out]; first | rfl | (show Ending.returned (.bool (decide ((57 : Int) < (x : Int)))) = _; rw [H4.out]), 0, rfl⟩
 ·by_cases h2 : 57 < x
  ·have HB := hid (show notDig x = true by unfold notDig; simp; omega)
   have H4 := hid (decide_eq_true (show (57 : Int) < (x : Int) by omega))
   have h3 : ¬ (x : Int) < 48 := by omega
   go_enter Tryz.func46, Tryz.ntmps46; go_wp2; go_ret; exact ⟨by rw [HB.out]; first | rfl | (show Ending.returned (.bool (decide ((57 : Int) < (x : Int)))) = _; rw [H4.out]), 0, rfl⟩
  ·have HB := hid (show notDig x = false by unfold notDig; simp; omega)
   have h3 : ¬ (x : Int) < 48 := by omega
   have H4 := hid (decide_eq_false (show ¬ (57 : Int) < (x : Int) by omega))
   go_enter Tryz.func46, Tryz.ntmps46; go_wp2; go_ret; exact ⟨by rw [HB.out]; first | rfl | (show Ending.returned (.bool (decide ((57 : Int) < (x : Int)))) = _; rw [H4.out]), 0, rfl⟩
theorem notDigs_any (w : World) (s : List UInt8) {b : Bool} (hb : Hid ((!(s.all dig)) = b)) : Calls Tryz.prog 45 #[strV s, .func (.func 46) #[] #[]] w fun e w' => e = .returned (.bool b) ∧ Fr [] w w' := by
 refine Calls.mono (Tryz.strings_ContainsFunc_runes 46 #[] (fun args w => by rfl) notDig ⟨s.toArray⟩ w (fun W x hx _ => notDig_any W x hx)) ?_
 rintro e w' ⟨rfl, hF⟩
 exact ⟨by rw [idx_digits, hb.out], Fr.of_below hF⟩
end Go.Proofs.YtbiohhmpclnpgaaGreatDoor
