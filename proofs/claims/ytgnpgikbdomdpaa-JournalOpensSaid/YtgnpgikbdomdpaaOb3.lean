/-
  A disk whose current contents are its durable ones with the pending writes: the disk of the document.
-/
import Derived.Test.YtgnpgikbdomdpaaOb2
import Derived.Test.YtgnpgikbdomdpaaRow
namespace Go.Proofs.Ytgnpgikbdomdpaa
open Go.RowKit
set_option linter.unusedSimpArgs false
set_option linter.unusedVariables false
section
variable {T : List Nat} {w0 w : World} {l : List Ent}
theorem Hp.disk (H : Hp T w0 w l) (b : Nat) {S S2 : List Nat} {cur dur : List (List UInt8)} {pend : List (Nat × List UInt8)} {f : Ent → List Ent} [i : Oi b S (DiskAt b cur dur pend S2) l f] : DRep w b cur dur pend S2 := H.ob b
theorem Hp.ref (H : Hp T w0 w l) (b : Nat) {S S2 : List Nat} {dur : List (List UInt8)} {pend : List (Nat × List UInt8)} {f : Ent → List Ent} [i : Oi b S (RefAt b dur pend S2) l f] : RRep w b dur pend S2 := H.ob b
theorem Hp.rowo (H : Hp T w0 w l) (k : Nat) {S S2 : List Nat} {e : TypeId} {sz n : Nat} {v : Value} {xs : List Value} {f : Ent → List Ent} [i : Oi k S (RowAt e sz v n xs S2) l f] : RowAt e sz v n xs S2 w := H.ob k
end
theorem write_s {w : World} {b : Nat} {dur : List (List UInt8)} {pend : List (Nat × List UInt8)} {S : List Nat} (D : DRep w b (syncD pend dur) dur pend S) (hpl : pend.length ≤ 1000000) (i : Int) (s : List UInt8) (p : Option Addr) (cp : Nat) (hr : ∀ w', Fr S w w' → Rd w' (.slice p s.length cp) s.length (bytesV s)) :
    Calls Try.prog 20 #[.pointer (some ⟨b, 0, none⟩), .int .i64 i, .slice p s.length cp] w fun e w' => e = .returned (.int .i64 (wrote dur.length i s).1) ∧ Fr S w w' ∧ ∃ S', DRep w' b (syncD (pend ++ (wrote dur.length i s).2) dur) dur (pend ++ (wrote dur.length i s).2) S' ∧ ∀ x ∈ S', x ∈ S ∨ w.heap.size ≤ x := by
  have h := write_all D hpl i s p cp hr
  rw [syncD_len] at h
  simp only [← syncD_append] at h
  exact h
theorem RowAt.keep {w : World} {v : Value} {kp : List Bool} {S S2 : List Nat} (h : RowAt 4 1 v kp.length (kp.map Value.bool) S w) (hd : ∀ x ∈ S, x ∉ S2) : KeepIn w S2 v kp := by
  obtain ⟨h0, ⟨rfl, h1, rfl⟩ | ⟨g, cap, pad, rfl, rfl, h2, h3, h4, h5⟩⟩ := h
  · exact .inl ⟨List.eq_nil_of_length_eq_zero h1, _, _, rfl⟩
  · refine .inr ⟨g, 0, cap, rfl, lt_of_get h5, hd g (by simp), by unfold maxLen at h3; omega, fun j u hj => ?_⟩
    rw [cell_of_row w g _ _ _ _ h5, Nat.zero_add]
    simpa using (by rw [List.getElem?_append_left (List.getElem?_eq_some_iff.1 hj).1]; exact hj : (kp.map Value.bool ++ pad)[j]? = some u)
theorem readE_in {n i : Nat} (h : i < n) : readE n i = 0 := by unfold readE; rw [if_neg (by omega)]
end Go.Proofs.Ytgnpgikbdomdpaa
