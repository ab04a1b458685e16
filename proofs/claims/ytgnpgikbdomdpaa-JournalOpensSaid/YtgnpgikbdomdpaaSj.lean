/-
  Strings as lists of bytes: length, sum, byte, parts; a string's bytes as a slice.
-/
import Derived.Test.YtgnpgikbdomdpaaJn10
namespace Go.Proofs.Ytgnpgikbdomdpaa
open Go.RowKit
set_option linter.unusedSimpArgs false
set_option linter.unusedVariables false
section
variable {P : Program} {a : Act} {w : World} {o : Oper}
theorem ba_add (s r : List UInt8) : (⟨s.toArray⟩ ++ ⟨r.toArray⟩ : ByteArray) = ⟨(s ++ r).toArray⟩ := by
  apply ByteArray.ext
  simp [ByteArray.data_append]
theorem ba_extract (s : List UInt8) (i j : Nat) : (ByteArray.mk s.toArray).extract i j = ⟨((s.take j).drop i).toArray⟩ := by
  apply ByteArray.ext
  simp [ByteArray.data_extract, List.extract_eq_take_drop, List.drop_take]
theorem ba_size (s : List UInt8) : (ByteArray.mk s.toArray).size = s.length := by simp [ByteArray.size]
theorem ev_strLen {x : Operand} {t : TypeId} (ho : o.op = .call { callee := .builtin .len, args := #[x], argTypes := #[t] }) {s : List UInt8} (hx : a.eval x = strV s) [h : Sy P t] : (execOp a.eval o).run P w = .ok (.value (.int .i64 s.length)) w := by
  have := c_lens (P := P) (w := w) ho (s := ⟨s.toArray⟩) hx
  rw [ba_size] at this
  exact this
theorem ev_strAdd {t t' : TypeId} {x y : Operand} (ho : o.op = .binOp .add t x y t') {s r : List UInt8} (hx : a.eval x = strV s) (hy : a.eval y = strV r) (hl : s.length + r.length ≤ 1000000000000 := by omega) : (execOp a.eval o).run P w = .ok (.value (strV (s ++ r))) w := by
  unfold strV at hx hy
  have e : (eqGuard .add t x y (.string ⟨s.toArray⟩) (.string ⟨r.toArray⟩)).run P w = .ok () w := rfl
  have e2 : (Op.stringOp .add ⟨s.toArray⟩ ⟨r.toArray⟩).run P w = .ok (strV (s ++ r)) w := by
    unfold Op.stringOp
    simp only
    rw [if_neg (by
      have h1 : (ByteArray.mk s.toArray).size = s.length := by simp [ByteArray.size]
      have h2 : (ByteArray.mk r.toArray).size = r.length := by simp [ByteArray.size]
      rw [h1, h2]
      show ¬ ((s.length + r.length : Nat) : Int) > 9223372036854775807
      omega), ba_add]
    rfl
  unfold execOp
  simp only [ho, hx, hy, Sem.run_bind, e, Result.andThen_ok]
  show ((Sem.run P (Op.stringOp .add ⟨s.toArray⟩ ⟨r.toArray⟩) w).andThen _) = _
  rw [e2]
  rfl
theorem ev_strIdx {t : TypeId} {x y : Operand} (ho : o.op = .index t x y) {s : List UInt8} (hx : a.eval x = strV s) {k : IntKind} {i : Int} (hy : a.eval y = .int k i) [h : Sy P t] {b : UInt8} (h0 : 0 ≤ i) (hb : s[i.toNat]? = some b) : (execOp a.eval o).run P w = .ok (.value (.int .u8 b.toNat)) w := by
  unfold strV at hx
  obtain ⟨hlt, rfl⟩ := List.getElem?_eq_some_iff.1 hb
  have e : (Instr.index t (.string ⟨s.toArray⟩) (.int k i)).run P w = .ok (.int .u8 s[i.toNat].toNat) w := by
    rw [run_index_string _ _ _ _ _ h.h, dif_pos ⟨h0, by rw [ba_size]; omega⟩]
    rfl
  unfold execOp
  simp only [ho, hx, hy, Sem.run_bind, e, Result.andThen_ok, Sem.run_pure]
theorem ev_strHead {t : TypeId} {x y : Operand} (ho : o.op = .slice t x none (some y) none) {s : List UInt8} (hx : a.eval x = strV s) {k : IntKind} {i : Int} (hy : a.eval y = .int k i) [h : Sy P t] (h0 : 0 ≤ i := by omega) (h1 : i ≤ s.length := by omega) : (execOp a.eval o).run P w = .ok (.value (strV (s.take i.toNat))) w := by
  unfold strV at hx
  have e := run_slice_string_h (P := P) w t ⟨s.toArray⟩ h.h k i h0 (by rw [ba_size]; exact h1)
  rw [ba_extract, List.drop_zero] at e
  unfold execOp
  simp only [ho, hx, hy, Option.map_none, Option.map_some, Sem.run_bind, run_sliceAt_string _ _ _ _ _ _ h.h, e, Result.andThen_ok, Sem.run_pure]
  rfl
theorem ev_strTail {t : TypeId} {x y : Operand} (ho : o.op = .slice t x (some y) none none) {s : List UInt8} (hx : a.eval x = strV s) {k : IntKind} {i : Int} (hy : a.eval y = .int k i) [h : Sy P t] (h0 : 0 ≤ i := by omega) (h1 : i ≤ s.length := by omega) : (execOp a.eval o).run P w = .ok (.value (strV (s.drop i.toNat))) w := by
  unfold strV at hx
  have e := run_slice_string_l (P := P) w t ⟨s.toArray⟩ h.h k i h0 (by rw [ba_size]; exact h1)
  rw [ba_extract, ba_size, List.take_length] at e
  unfold execOp
  simp only [ho, hx, hy, Option.map_none, Option.map_some, Sem.run_bind, run_sliceAt_string _ _ _ _ _ _ h.h, e, Result.andThen_ok, Sem.run_pure]
  rfl
end
end Go.Proofs.Ytgnpgikbdomdpaa
