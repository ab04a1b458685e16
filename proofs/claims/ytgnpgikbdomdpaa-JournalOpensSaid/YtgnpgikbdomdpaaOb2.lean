/-
  The methods of a disk and of its reference at any index and any data: one contract each.
-/
import Derived.Test.YtgnpgikbdomdpaaOb
namespace Go.Proofs.Ytgnpgikbdomdpaa
open Go.RowKit
set_option linter.unusedSimpArgs false
set_option linter.unusedVariables false
/-- What a write returns, and what it adds to the pending writes. -/
def wrote (n : Nat) (i : Int) (s : List UInt8) : Int × List (Nat × List UInt8) := if i < 0 ∨ (n : Int) ≤ i then (300, []) else if 64 < s.length then (301, []) else (0, [(i.toNat, s)])
def readD (cur : List (List UInt8)) (i : Int) : List UInt8 := if i < 0 then [] else cur[i.toNat]?.getD []
def readE (n : Nat) (i : Int) : Int := if i < 0 ∨ (n : Int) ≤ i then 300 else 0
theorem wrote_len (n : Nat) (i : Int) (s : List UInt8) : (wrote n i s).2.length ≤ 1 := by unfold wrote; split; · simp
                                                                                          split <;> simp
theorem wrote_idx (n : Nat) (i : Int) (s : List UInt8) : ∀ x ∈ (wrote n i s).2, x.1 < n := by
  unfold wrote; split
  · simp
  · split
    · simp
    · intro x hx; simp only [List.mem_singleton] at hx; subst hx; show i.toNat < n; omega
theorem wrote_nil (n : Nat) (i : Int) : (wrote n i []).1 = readE n i := by unfold wrote readE; split <;> simp
theorem wrote_end (n : Nat) (s : List UInt8) : wrote n n s = (300, []) := by unfold wrote; rw [if_pos (by omega)]
theorem wrote_ok (n k : Nat) (s : List UInt8) (h : k < n) (hs : s.length ≤ 64) : wrote n k s = (0, [(k, s)]) := by unfold wrote; rw [if_neg (by omega), if_neg (by omega), Int.toNat_natCast]
theorem wrote_big (n : Nat) (i : Int) (s : List UInt8) (h0 : 0 ≤ i) (h : i < n) (hs : 64 < s.length) : wrote n i s = (301, []) := by unfold wrote; rw [if_neg (by omega), if_pos hs]
theorem syncD_append (p q : List (Nat × List UInt8)) (dur : List (List UInt8)) : syncD (p ++ q) dur = syncD q (syncD p dur) := by simp [syncD]
theorem write_all {w : World} {b : Nat} {cur dur : List (List UInt8)} {pend : List (Nat × List UInt8)} {S : List Nat} (D : DRep w b cur dur pend S) (hpl : pend.length ≤ 1000000) (i : Int) (s : List UInt8) (p : Option Addr) (cp : Nat) (hr : ∀ w', Fr S w w' → Rd w' (.slice p s.length cp) s.length (bytesV s)) :
    Calls Try.prog 20 #[.pointer (some ⟨b, 0, none⟩), .int .i64 i, .slice p s.length cp] w fun e w' => e = .returned (.int .i64 (wrote cur.length i s).1) ∧ Fr S w w' ∧ ∃ S', DRep w' b (syncD (wrote cur.length i s).2 cur) dur (pend ++ (wrote cur.length i s).2) S' ∧ ∀ x ∈ S', x ∈ S ∨ w.heap.size ≤ x := by
  unfold wrote
  by_cases hi : i < 0 ∨ (cur.length : Int) ≤ i
  · rw [if_pos hi]
    refine Calls.mono (write_out D i hi _) ?_
    rintro e w' ⟨rfl, hF⟩
    refine ⟨rfl, hF.mono (by simp), S, ?_, fun x hx => .inl hx⟩
    simp only [syncD, List.foldl_nil, List.append_nil]
    exact D.fr hF (by simp)
  · rw [if_neg hi]
    by_cases h64 : 64 < s.length
    · rw [if_pos h64]
      refine Calls.mono (write_big D i (by omega) (by omega) _ _ _ h64) ?_
      rintro e w' ⟨rfl, hF⟩
      refine ⟨rfl, hF.mono (by simp), S, ?_, fun x hx => .inl hx⟩
      simp only [syncD, List.foldl_nil, List.append_nil]
      exact D.fr hF (by simp)
    · rw [if_neg h64]
      obtain ⟨k, rfl⟩ : ∃ k : Nat, i = k := ⟨i.toNat, by omega⟩
      exact write_any D hpl k s p cp (by omega) (by omega) hr
theorem read_all {w : World} {b : Nat} {cur dur : List (List UInt8)} {pend : List (Nat × List UInt8)} {S : List Nat} (D : DRep w b cur dur pend S) (i : Int) :
    Calls Try.prog 19 #[.pointer (some ⟨b, 0, none⟩), .int .i64 i] w fun e w' => ∃ v, e = .returned (.tuple #[v, .int .i64 (readE cur.length i)]) ∧ Fr [] w w' ∧ w'.ownsRow w.heap.size 5 1 v (readD cur i).length (bytesV (readD cur i)) := by
  unfold readE readD
  by_cases hi : i < 0 ∨ (cur.length : Int) ≤ i
  · rw [if_pos hi]
    have e1 : (if i < 0 then [] else cur[i.toNat]?.getD []) = [] := by
      split
      · rfl
      · rw [List.getElem?_eq_none (by omega)]; rfl
    rw [e1]
    refine Calls.mono (read_out D i hi) ?_
    rintro e w' ⟨rfl, hF⟩
    exact ⟨_, rfl, hF, World.ownsRow_nil _ _ _ _⟩
  · rw [if_neg hi]
    obtain ⟨k, rfl⟩ : ∃ k : Nat, i = k := ⟨i.toNat, by omega⟩
    have hk : k < cur.length := by omega
    have e1 : (if (k : Int) < 0 then [] else cur[(k : Int).toNat]?.getD []) = cur[k] := by
      rw [if_neg (by omega), Int.toNat_natCast, List.getElem?_eq_getElem hk]; rfl
    rw [e1]
    exact read_any D k cur[k] (List.getElem?_eq_getElem hk)
theorem refWrite_all {w : World} {b : Nat} {dur : List (List UInt8)} {pend : List (Nat × List UInt8)} {S : List Nat} (D : RRep w b dur pend S) (hpl : pend.length ≤ 1000000) (i : Int) (s : List UInt8) (p : Option Addr) (cp : Nat) (hr : ∀ w', Fr S w w' → Rd w' (.slice p s.length cp) s.length (bytesV s)) :
    Calls Try.prog 36 #[.pointer (some ⟨b, 0, none⟩), .int .i64 i, .slice p s.length cp] w fun e w' => e = .returned (.int .i64 (wrote dur.length i s).1) ∧ Fr S w w' ∧ ∃ S', RRep w' b dur (pend ++ (wrote dur.length i s).2) S' ∧ ∀ x ∈ S', x ∈ S ∨ w.heap.size ≤ x := by
  unfold wrote
  by_cases hi : i < 0 ∨ (dur.length : Int) ≤ i
  · rw [if_pos hi]
    refine Calls.mono (refWrite_out D i hi _) ?_
    rintro e w' ⟨rfl, hF⟩
    refine ⟨rfl, hF.mono (by simp), S, ?_, fun x hx => .inl hx⟩
    simp only [List.append_nil]
    exact D.fr hF (by simp)
  · rw [if_neg hi]
    by_cases h64 : 64 < s.length
    · rw [if_pos h64]
      refine Calls.mono (refWrite_big D i (by omega) (by omega) _ _ _ h64) ?_
      rintro e w' ⟨rfl, hF⟩
      refine ⟨rfl, hF.mono (by simp), S, ?_, fun x hx => .inl hx⟩
      simp only [List.append_nil]
      exact D.fr hF (by simp)
    · rw [if_neg h64]
      obtain ⟨k, rfl⟩ : ∃ k : Nat, i = k := ⟨i.toNat, by omega⟩
      by_cases hp : pend = []
      · subst hp; exact refWrite_first D k s p cp (by omega) (by omega) hr
      · exact refWrite_more D hp hpl k s p cp (by omega) (by omega) hr
theorem refRead_all {w : World} {b : Nat} {dur : List (List UInt8)} {pend : List (Nat × List UInt8)} {S : List Nat} (D : RRep w b dur pend S) (hpl : pend.length ≤ 1000000) (i : Int) :
    Calls Try.prog 39 #[.pointer (some ⟨b, 0, none⟩), .int .i64 i] w fun e w' => e = .returned (.tuple #[strV (readD (syncD pend dur) i), .int .i64 (readE dur.length i)]) ∧ Fr [] w w' := by
  have hidx := D.1.idx
  unfold readE readD
  by_cases hi : i < 0 ∨ (dur.length : Int) ≤ i
  · rw [if_pos hi]
    have e1 : (if i < 0 then [] else (syncD pend dur)[i.toNat]?.getD []) = [] := by
      split
      · rfl
      · rw [List.getElem?_eq_none (by rw [syncD_len]; omega)]; rfl
    rw [e1]
    exact refRead_out D i hi
  · rw [if_neg hi]
    obtain ⟨k, rfl⟩ : ∃ k : Nat, i = k := ⟨i.toNat, by omega⟩
    have hk : k < dur.length := by omega
    have e1 : (if (k : Int) < 0 then [] else (syncD pend dur)[(k : Int).toNat]?.getD []) = refRead dur[k] pend k := by
      rw [if_neg (by omega), Int.toNat_natCast, sync_read pend dur k dur[k] (List.getElem?_eq_getElem hk) hidx]; rfl
    rw [e1]
    exact refRead_any D k dur[k] (List.getElem?_eq_getElem hk) hpl
theorem diskNew_errF (n : Int) (w : World) (h1 : n < 0 ∨ 65536 < n) :
    Calls Try.prog 14 #[.int .i64 n] w fun e w' => e = .returned (.tuple #[.pointer none, .int .i64 6]) ∧ Fr [] w w' :=
  Calls.mono (diskNew_err n w h1) fun e w' ⟨h1, h2⟩ => ⟨h1, h2 ▸ Fr.refl _ _⟩
theorem refNew_errF (n : Int) (w : World) (h1 : n < 0 ∨ 65536 < n) :
    Calls Try.prog 16 #[.int .i64 n] w fun e w' => e = .returned (.tuple #[.pointer none, .int .i64 6]) ∧ Fr [] w w' :=
  Calls.mono (refNew_err n w h1) fun e w' ⟨h1, h2⟩ => ⟨h1, h2 ▸ Fr.refl _ _⟩
theorem mod_fr (a b : Int) (w : World) (h : 0 < b) (hb : b < 1000) :
    Calls Try.prog 15 #[.int .i64 a, .int .i64 b] w fun e w' => e = .returned (.int .i64 (a % 18446744073709551616 % b)) ∧ Fr [] w w' :=
  Calls.mono (mod_any a b w h hb) fun e w' ⟨h1, h2⟩ => ⟨h1, h2 ▸ Fr.refl _ _⟩
theorem mod_nat (a : Int) (b : Nat) (h : 0 < b) : ∃ m : Nat, a % 18446744073709551616 % (b : Int) = m ∧ m < b := by
  have h1 := Int.emod_nonneg (a % 18446744073709551616) (show (b : Int) ≠ 0 by omega)
  have h2 := Int.emod_lt_of_pos (a % 18446744073709551616) (show (0 : Int) < b by omega)
  exact ⟨(a % 18446744073709551616 % (b : Int)).toNat, by omega, by omega⟩
/-- What short returns of an argument's slice reads its first bytes. -/
theorem SArg.parts {w : World} {v : Value} {s : List UInt8} (h : SArg w v s.length (bytesV s)) : ∃ p c, v = .slice p s.length c ∧ s.length ≤ c ∧ (p = none → c = 0) ∧ c ≤ maxLen ∧ ∀ w', Fr [] w w' → Rd w' (.slice p (s.take 70).length c) (s.take 70).length (bytesV (s.take 70)) := by
  obtain ⟨p, c, rfl, h1, h2, h3, h4⟩ := h
  refine ⟨p, c, rfl, h2, h1, h3, fun w' k => ?_⟩
  have := (h4 w' k).cutTo 70
  rw [List.length_take, Nat.min_comm]
  exact this
theorem short_fr (p : Option Addr) (s : List UInt8) (c : Nat) (w : World) (hn : s.length ≤ c) (hp : p = none → c = 0) (hc : c ≤ maxLen) :
    Calls Try.prog 21 #[.slice p s.length c] w fun e w' => e = .returned (.slice p (s.take 70).length c) ∧ Fr [] w w' :=
  Calls.mono (short_any p s.length c w hn hp hc) fun e w' ⟨h1, h2⟩ => ⟨by rw [h1, List.length_take, Nat.min_comm], h2 ▸ Fr.refl _ _⟩
end Go.Proofs.Ytgnpgikbdomdpaa
