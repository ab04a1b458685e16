/-
  The integers: Parse.
-/
import Derived.Test.YthbeeeclgbpopaaGreatDoorPz1
import Derived.Test.YthbeeeclgbpopaaGreatDoorIw28
import Derived.Lib.AtoiErrMem
import Derived.Deep.LoopGhost
namespace Go.Proofs.YthbeeeclgbpopaaGreatDoor
open Go.RowKit
set_option linter.unusedSimpArgs false
set_option linter.unusedVariables false
set_option maxHeartbeats 16000000
set_option maxRecDepth 100000
section
variable {P : Program} {a : Act} {w : World} {o : Oper}
theorem ba_extract (s : List UInt8) (i j : Nat) : (ByteArray.mk s.toArray).extract i j = ⟨((s.take j).drop i).toArray⟩ := by
  apply ByteArray.ext
  simp [ByteArray.data_extract, List.extract_eq_take_drop, List.drop_take]
theorem ba_size (s : List UInt8) : (ByteArray.mk s.toArray).size = s.length := by simp [ByteArray.size]
theorem ev_strLen {x : Operand} {t : TypeId} (ho : o.op = .call { callee := .builtin .len, args := #[x], argTypes := #[t] }) {s : List UInt8} (hx : a.eval x = strV s) [h : Sy P t] : (execOp a.eval o).run P w = .ok (.value (.int .i64 s.length)) w := by
  have := c_lens (P := P) (w := w) ho (s := ⟨s.toArray⟩) hx
  rw [ba_size] at this
  exact this
theorem ev_strHead {t : TypeId} {x y : Operand} (ho : o.op = .slice t x none (some y) none) {s r : List UInt8} (hx : a.eval x = strV s) {k : IntKind} {i : Int} (hy : a.eval y = .int k i) [h : Sy P t] (hr : Hid (s.take i.toNat = r)) (h0 : 0 ≤ i := by omega) (h1 : i ≤ s.length := by omega) : (execOp a.eval o).run P w = .ok (.value (strV r)) w := by
  rw [← hr.out]
  unfold strV at hx
  have e := run_slice_string_h (P := P) w t ⟨s.toArray⟩ h.h k i h0 (by rw [ba_size]; exact h1)
  rw [ba_extract, List.drop_zero] at e
  unfold execOp
  simp only [ho, hx, hy, Option.map_none, Option.map_some, Sem.run_bind, run_sliceAt_string _ _ _ _ _ _ h.h, e, Result.andThen_ok, Sem.run_pure]
  rfl
theorem ev_strTail {t : TypeId} {x y : Operand} (ho : o.op = .slice t x (some y) none none) {s r : List UInt8} (hx : a.eval x = strV s) {k : IntKind} {i : Int} (hy : a.eval y = .int k i) [h : Sy P t] (hr : Hid (s.drop i.toNat = r)) (h0 : 0 ≤ i := by omega) (h1 : i ≤ s.length := by omega) : (execOp a.eval o).run P w = .ok (.value (strV r)) w := by
  rw [← hr.out]
  unfold strV at hx
  have e := run_slice_string_l (P := P) w t ⟨s.toArray⟩ h.h k i h0 (by rw [ba_size]; exact h1)
  rw [ba_extract, ba_size, List.take_length] at e
  unfold execOp
  simp only [ho, hx, hy, Option.map_none, Option.map_some, Sem.run_bind, run_sliceAt_string _ _ _ _ _ _ h.h, e, Result.andThen_ok, Sem.run_pure]
  rfl
theorem ev_strEq0 {t t' : TypeId} {x y : Operand} (ho : o.op = .binOp .eql t x y t') {s : List UInt8} (hx : a.eval x = strV s) (hy : a.eval y = strV []) {b : Bool} (hs : Hid ((s == []) = b)) : (execOp a.eval o).run P w = .ok (.value (.bool b)) w := by
  rw [← hs.out]; exact ev_strEq ho hx hy
theorem ev_strNe0 {t t' : TypeId} {x y : Operand} (ho : o.op = .binOp .neq t x y t') {s : List UInt8} (hx : a.eval x = strV s) (hy : a.eval y = strV []) {b : Bool} (hs : Hid ((s == []) = b)) : (execOp a.eval o).run P w = .ok (.value (.bool (!b))) w := by
  rw [← hs.out]; exact ev_strNe ho hx hy
end
theorem prefix_any (w : World) (s : List UInt8) (c : UInt8) {b : Bool} (hb : Hid ((s.head? == some c) = b)) : Calls Tryz.prog 77 #[strV s, .string (ByteArray.mk #[c])] w fun e w' => e = .returned (.bool b) ∧ Fr [] w w' := by
  refine Calls.mono (Tryz.strings_HasPrefix ⟨s.toArray⟩ (ByteArray.mk #[c]) w) ?_
  rintro e w' ⟨rfl, rfl⟩
  refine ⟨?_, Fr.refl _ _⟩
  rw [← hb.out]
  cases s with
  | nil => rfl
  | cons x r =>
    show Ending.returned (.bool (List.isPrefixOf [c] (x :: r))) = _
    have e : List.isPrefixOf [c] (x :: r) = ((x :: r).head? == some c) := by
      rw [List.isPrefixOf_cons_cons, List.head?_cons, Option.some_beq_some, Bool.beq_comm]
      simp [List.isPrefixOf]
    rw [e]
theorem atoi_any (w : World) (s : List UInt8) (hs : Hid (s.all dig = true)) (hn : Hid (s ≠ [])) (hl : s.length ≤ 18) : Calls Tryz.prog 80 #[strV s] w fun e w' => e = .returned (.tuple #[.int .i64 (num s : Int), .nilIface]) ∧ Fr [] w w' := by
  refine Calls.mono (Tryz.strconv_Atoi ⟨s.toArray⟩ (num s : Int) (by rw [ba_size]; exact hl) (atoi_num hs.out hn.out) w) ?_
  rintro e w' ⟨rfl, t, rfl⟩
  exact ⟨rfl, Fr.of_below (Lib.bytesWorld_below _ _ _)⟩
theorem notDig_any (w : World) (x : Nat) (hx : x ≤ 1114111) : Calls Tryz.prog 79 #[.int .i32 (x : Int)] w fun e w' => e = .returned (.bool (notDig x)) ∧ ∃ q, w' = w.drewN q := by
  by_cases h1 : x < 48
  · have HB := hid (show notDig x = true by unfold notDig; simp; omega)
    have H4 := hid (show decide ((57 : Int) < (x : Int)) = false from decide_eq_false (by omega))
    go_enter Tryz.func79, Tryz.ntmps79; go_wp2; go_ret; exact ⟨by rw [HB.out]; first | rfl | (show Ending.returned (.bool (decide ((57 : Int) < (x : Int)))) = _; rw [H4.out]), 0, rfl⟩
  · by_cases h2 : 57 < x
    · have HB := hid (show notDig x = true by unfold notDig; simp; omega)
      have H4 := hid (decide_eq_true (show (57 : Int) < (x : Int) by omega))
      have h3 : ¬ (x : Int) < 48 := by omega
      go_enter Tryz.func79, Tryz.ntmps79; go_wp2; go_ret; exact ⟨by rw [HB.out]; first | rfl | (show Ending.returned (.bool (decide ((57 : Int) < (x : Int)))) = _; rw [H4.out]), 0, rfl⟩
    · have HB := hid (show notDig x = false by unfold notDig; simp; omega)
      have h3 : ¬ (x : Int) < 48 := by omega
      have H4 := hid (decide_eq_false (show ¬ (57 : Int) < (x : Int) by omega))
      go_enter Tryz.func79, Tryz.ntmps79; go_wp2; go_ret; exact ⟨by rw [HB.out]; first | rfl | (show Ending.returned (.bool (decide ((57 : Int) < (x : Int)))) = _; rw [H4.out]), 0, rfl⟩
theorem notDigs_any (w : World) (s : List UInt8) {b : Bool} (hb : Hid ((!(s.all dig)) = b)) : Calls Tryz.prog 78 #[strV s, .func (.func 79) #[] #[]] w fun e w' => e = .returned (.bool b) ∧ Fr [] w w' := by
  refine Calls.mono (Tryz.strings_ContainsFunc_runes 79 #[] (fun args w => by rfl) notDig ⟨s.toArray⟩ w (fun W x hx _ => notDig_any W x hx)) ?_
  rintro e w' ⟨rfl, hF⟩
  exact ⟨by rw [idx_digits, hb.out], Fr.of_below hF⟩
end Go.Proofs.YthbeeeclgbpopaaGreatDoor
