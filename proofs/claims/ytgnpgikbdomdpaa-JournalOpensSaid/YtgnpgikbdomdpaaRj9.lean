/-
  What the journal's steps keep: plain facts on records, blocks and pending writes.
-/
import Derived.Test.YtgnpgikbdomdpaaRj8
namespace Go.Proofs.Ytgnpgikbdomdpaa
open Go.RowKit
set_option linter.unusedSimpArgs false
set_option linter.unusedVariables false
/-- The records and the next block fit a disk of n blocks. -/
structure Fit (n : Nat) (x : List (List UInt8) × Nat) : Prop where
  next : x.2 ≤ n
  len : x.1.length ≤ x.2
  each : ∀ r ∈ x.1, r.length ≤ 1000000000
theorem loadP_len {cur : List (List UInt8)} {m next : Nat} {d : List UInt8} {p : Nat} (h64 : ∀ s ∈ cur, s.length ≤ 64) (hc : cur.length ≤ 65536) (h : loadP cur m next = some (d, p)) : d.length ≤ 1000000000 := by
  have hp := loadP_some h
  unfold loadP at h
  split at h
  · rename_i hx
    simp only [Option.some.injEq, Prod.mk.injEq] at h
    obtain ⟨rfl, rfl⟩ := h
    have := dataP_le h64 next (partsIn (readD cur (next : Nat)))
    omega
  · cases h
theorem openF_fit {cur : List (List UInt8)} (h64 : ∀ s ∈ cur, s.length ≤ 64) (hc : cur.length ≤ 65536) : ∀ (k : Nat) (x : List (List UInt8) × Nat), Fit cur.length x → Fit cur.length (openF cur k x)
  | 0, x, h => h
  | k + 1, x, h => by
    cases hl : loadP cur x.1.length x.2 with
    | none => rw [openF_none hl]; exact h
    | some z =>
      obtain ⟨d, p⟩ := z
      rw [openF_some hl]
      have hp := loadP_some hl
      have hd := loadP_len h64 hc hl
      refine openF_fit h64 hc k _ ⟨hp.2, ?_, fun r hr => ?_⟩
      · have := h.len
        simp only [List.length_append, List.length_singleton]
        omega
      · rcases List.mem_append.1 hr with h1 | h1
        · exact h.each r h1
        · simp only [List.mem_singleton] at h1; subst h1; exact hd
theorem openR_fit {cur : List (List UInt8)} (h64 : ∀ s ∈ cur, s.length ≤ 64) (hc : cur.length ≤ 65536) : Fit cur.length (openR cur) :=
  openF_fit h64 hc _ _ ⟨Nat.zero_le _, Nat.le_refl _, by simp⟩
theorem appE_zero {n next len : Nat} (h : appE n next len = 0) : len ≤ 1048576 ∧ partsOf len ≤ n - next := by
  unfold appE at h
  split at h
  · cases h
  · split at h
    · cases h
    · omega
theorem partsOf_pos (n : Nat) : 1 ≤ partsOf n := by unfold partsOf; omega
theorem appR_fit {n : Nat} {recs : List (List UInt8)} {next : Nat} (data : List UInt8) (h : Fit n (recs, next)) : Fit n (appR n recs next data) := by
  unfold appR
  split
  · rename_i hz
    have h1 := appE_zero hz
    have h2 := h.next
    have h3 := h.len
    have h4 := partsOf_pos data.length
    simp only at h2 h3
    refine ⟨by simp only; omega, by simp only [List.length_append, List.length_singleton]; omega, fun r hr => ?_⟩
    rcases List.mem_append.1 hr with h5 | h5
    · exact h.each r h5
    · simp only [List.mem_singleton] at h5; subst h5; omega
  · exact h
theorem appW_len {n : Nat} {recs : List (List UInt8)} {next : Nat} (data : List UInt8) : (appW n recs next data).length ≤ n := by
  unfold appW
  split
  · rename_i hz
    have h1 := appE_zero hz
    rw [writesP_len]; omega
  · simp
theorem openRD_len (dur : List (List UInt8)) (pend : List (Nat × List UInt8)) : (openRD (syncD pend dur) dur pend).1.length = dur.length ∧ (openRD (syncD pend dur) dur pend).2.length ≤ pend.length + dur.length := by
  have h := clears_len (syncD pend dur) pend (openR (syncD pend dur)).2 ((syncD pend dur).length - (openR (syncD pend dur)).2)
  rw [syncD_len] at h
  unfold openRD
  simp only [syncD_len] at h ⊢
  split
  · exact ⟨h.1, by simp⟩
  · exact ⟨rfl, by simp only; omega⟩
theorem SArg.fr {w w' : World} {v : Value} {n : Nat} {cs : List Value} (h : SArg w v n cs) (k : Fr [] w w') : SArg w' v n cs := by
  obtain ⟨p, c, rfl, h1, h2, h3, h4⟩ := h
  exact ⟨p, c, rfl, h1, h2, h3, fun w2 k2 => h4 w2 (k.trans k2)⟩
theorem cell_off {T : List Nat} {w0 w : World} {l : List Ent} {b off k f : Nat} {cs : List Value} {v : Value} (H : Hp T w0 w l) [i : Rn b off cs l] (h : cs[k + f]? = some v) : w.cell? ⟨b, off + k + f, none⟩ = some v := by
  have := H.rngCell i.h h
  rwa [← Nat.add_assoc] at this
theorem pre_atJ {cs vs : List Value} {p j : Nat} {v : Value} (h : vs <+: cs.drop p) (hj : vs[j]? = some v) : cs[p + j]? = some v := by
  obtain ⟨r, hr⟩ := h
  have : (cs.drop p)[j]? = some v := by rw [← hr, List.getElem?_append_left (List.getElem?_eq_some_iff.1 hj).1]; exact hj
  rwa [List.getElem?_drop] at this
end Go.Proofs.Ytgnpgikbdomdpaa
