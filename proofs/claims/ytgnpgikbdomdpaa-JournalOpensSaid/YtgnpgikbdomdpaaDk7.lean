/-
  Disk: Crash with whatever is kept, from an argument's reading.
-/
import Derived.Test.YtgnpgikbdomdpaaDk6
import Derived.Test.YtgnpgikbdomdpaaArg
namespace Go.Proofs.Ytgnpgikbdomdpaa
open Go.RowKit
set_option linter.unusedSimpArgs false
set_option linter.unusedVariables false
/-- What Crash asks of its argument. -/
def KeepIn (w : World) (S : List Nat) (kv : Value) (kp : List Bool) : Prop :=
  (kp = [] ∧ ∃ p c, kv = .slice p 0 c) ∨ ∃ kb ko kc, kv = .slice (some ⟨kb, ko, none⟩) kp.length kc ∧ kb < w.heap.size ∧ kb ∉ S ∧ kp.length ≤ 9223372036854775807 ∧ ∀ (j : Nat) u, (kp.map Value.bool)[j]? = some u → w.cell? ⟨kb, ko + j, none⟩ = some u
theorem lt_of_cell {w : World} {a : Addr} {v : Value} (h : w.cell? a = some v) : a.block < w.heap.size := by
  unfold World.cell? at h
  by_cases hb : a.block < w.heap.size
  · exact hb
  · rw [Array.getElem?_eq_none (by omega)] at h
    simp at h
theorem SArg.addr {w : World} {v : Value} {n : Nat} {cs : List Value} (h : SArg w v n cs) (hc : cs ≠ []) : ∃ b off c, v = .slice (some ⟨b, off, none⟩) n c ∧ n ≤ c ∧ c ≤ maxLen ∧ b < w.heap.size ∧ ∀ w', Fr [] w w' → ∀ (j : Nat) u, cs[j]? = some u → w'.cell? ⟨b, off + j, none⟩ = some u := by
  obtain ⟨p, c, rfl, _, h1, h2, h3⟩ := h
  rcases h3 w (Fr.refl _ _) with ⟨_, h4, _⟩ | ⟨ad, c', h4, h5⟩
  · exact absurd h4 hc
  · obtain ⟨x, xs, rfl⟩ : ∃ x xs, cs = x :: xs := by cases cs with | nil => exact absurd rfl hc | cons x xs => exact ⟨x, xs, rfl⟩
    injection h4 with h6 h7 h8
    subst h6 h8
    obtain ⟨b, off, spot⟩ := ad
    have h9 := h5 0 x rfl
    have hs : spot = none := by simpa [Addr.add] using World.cell?_spot h9
    subst hs
    refine ⟨b, off, c, rfl, h1, h2, by simpa [Addr.add] using lt_of_cell h9, fun w' k j u hj => ?_⟩
    have := k.cell (h5 j u hj) (by simp)
    rwa [add_mk] at this
theorem SArg.keep {w0 w : World} {S : List Nat} {kv : Value} {kp : List Bool} (h : SArg w0 kv kp.length (kp.map Value.bool)) (k : Fr [] w0 w) (hS : ∀ x ∈ S, w0.heap.size ≤ x) : KeepIn w S kv kp := by
  cases kp with
  | nil => obtain ⟨p, c, rfl, _⟩ := h; exact .inl ⟨rfl, p, c, rfl⟩
  | cons x xs =>
    obtain ⟨b, off, c, rfl, h1, h2, h3, h4⟩ := h.addr (by simp)
    refine .inr ⟨b, off, c, rfl, Nat.lt_of_lt_of_le h3 k.size, fun hb => ?_, by unfold maxLen at h2; omega, h4 w k⟩
    have := hS b hb
    omega
theorem crash_any {w : World} {b : Nat} {cur dur : List (List UInt8)} {pend : List (Nat × List UInt8)} {S : List Nat} (D : DRep w b cur dur pend S) (hpl : pend.length ≤ 1000000) (kv : Value) (kp : List Bool) (hk : KeepIn w S kv kp) :
    Calls Try.prog 23 #[.pointer (some ⟨b, 0, none⟩), kv] w fun e w' => e = .returned (.tuple #[]) ∧ Fr S w w' ∧ ∃ S', DRep w' b (crashD kp 0 pend dur) (crashD kp 0 pend dur) [] S' ∧ ∀ x ∈ S', x ∈ S := by
  by_cases hp : pend = []
  · subst hp; exact crash_none D kv (.inl rfl) hpl
  · rcases hk with ⟨rfl, p, c, rfl⟩ | ⟨kb, ko, kc, rfl, h1, h2, h3, h4⟩
    · rw [crashD_none]; exact crash_none D _ (.inr ⟨p, c, rfl⟩) hpl
    · exact crash_rng D hp hpl kb ko kc kp h1 h2 h3 h4
theorem refCrash_any {w : World} {b : Nat} {dur : List (List UInt8)} {pend : List (Nat × List UInt8)} {S : List Nat} (D : RRep w b dur pend S) (hpl : pend.length ≤ 1000000) (kv : Value) (kp : List Bool) (hk : KeepIn w S kv kp) :
    Calls Try.prog 41 #[.pointer (some ⟨b, 0, none⟩), kv] w fun e w' => e = .returned (.tuple #[]) ∧ Fr S w w' ∧ ∃ S', RRep w' b (crashD kp 0 pend dur) [] S' ∧ ∀ x ∈ S', x ∈ S := by
  by_cases hp : pend = []
  · subst hp; exact refCrash_none D kv (.inl rfl) hpl
  · rcases hk with ⟨rfl, p, c, rfl⟩ | ⟨kb, ko, kc, rfl, h1, h2, h3, h4⟩
    · rw [crashD_none]; exact refCrash_none D _ (.inr ⟨p, c, rfl⟩) hpl
    · exact refCrash_rng D hp hpl kb ko kc kp h1 h2 h3 h4
end Go.Proofs.Ytgnpgikbdomdpaa
