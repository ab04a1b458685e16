/-
  A disk and its reference as objects of the known memory.
-/
import Derived.Test.YtgnpgikbdomdpaaDk7
namespace Go.Proofs.Ytgnpgikbdomdpaa
open Go.RowKit
set_option linter.unusedSimpArgs false
set_option linter.unusedVariables false
/-- A disk, the world last. -/
def DiskAt (b : Nat) (cur dur : List (List UInt8)) (pend : List (Nat × List UInt8)) (S : List Nat) (w : World) : Prop := DRep w b cur dur pend S
theorem DRep.o {w : World} {b : Nat} {cur dur : List (List UInt8)} {pend : List (Nat × List UInt8)} {S : List Nat} (h : DRep w b cur dur pend S) : DiskAt b cur dur pend S w := h
instance {b : Nat} {cur dur : List (List UInt8)} {pend : List (Nat × List UInt8)} {S : List Nat} : Fm S (DiskAt b cur dur pend S) := ⟨⟨fun _ _ _ k hn D => DRep.fr D k hn, fun _ D => DRep.lt D, fun _ D => DRep.nodup D⟩⟩
/-- A reference disk, the world last. -/
def RefAt (b : Nat) (dur : List (List UInt8)) (pend : List (Nat × List UInt8)) (S : List Nat) (w : World) : Prop := RRep w b dur pend S
theorem RRep.o {w : World} {b : Nat} {dur : List (List UInt8)} {pend : List (Nat × List UInt8)} {S : List Nat} (h : RRep w b dur pend S) : RefAt b dur pend S w := h
instance {b : Nat} {dur : List (List UInt8)} {pend : List (Nat × List UInt8)} {S : List Nat} : Fm S (RefAt b dur pend S) := ⟨⟨fun _ _ _ k hn D => RRep.fr D k hn, fun _ D => RRep.lt D, fun _ D => RRep.nodup D⟩⟩
theorem crashD_all (pend : List (Nat × List UInt8)) : ∀ (k : Nat) (kp : List Bool) (dur : List (List UInt8)), (∀ j, j < k + pend.length → kp[j]? = some true) → crashD kp k pend dur = syncD pend dur := by
  induction pend with
  | nil => intro k kp dur _; rfl
  | cons x xs ih =>
    intro k kp dur h
    have h0 := h k (by simp)
    simp only [crashD, syncD, List.foldl_cons, h0, if_true]
    exact ih (k + 1) kp _ (fun j hj => h j (by simp only [List.length_cons]; omega))
/-- What refRead reads of the durable strings is what a disk holds at once. -/
theorem sync_read (pend : List (Nat × List UInt8)) : ∀ (dur : List (List UInt8)) (i : Nat) (s0 : List UInt8), dur[i]? = some s0 → (∀ x ∈ pend, x.1 < dur.length) → (syncD pend dur)[i]? = some (refRead s0 pend i) := by
  induction pend with
  | nil => intro dur i s0 h _; exact h
  | cons x xs ih =>
    intro dur i s0 h hx
    have hi := (List.getElem?_eq_some_iff.1 h).1
    simp only [syncD, refRead, List.foldl_cons]
    by_cases hxi : x.1 = i
    · rw [if_pos hxi]
      exact ih _ i x.2 (by rw [hxi, List.getElem?_set_self hi]) (fun y hy => by rw [List.length_set]; exact hx y (List.mem_cons_of_mem _ hy))
    · rw [if_neg hxi]
      exact ih _ i s0 (by rw [List.getElem?_set_ne hxi]; exact h) (fun y hy => by rw [List.length_set]; exact hx y (List.mem_cons_of_mem _ hy))
end Go.Proofs.Ytgnpgikbdomdpaa
