/-
  Numerals in groups of nine digits; a list of strings turned about.
-/
import Derived.Test.YthbeeeclgbpopaaGreatDoorSh2
namespace Go.Proofs.YthbeeeclgbpopaaGreatDoor
open Go.RowKit
set_option linter.unusedSimpArgs false
set_option linter.unusedVariables false
/-- The numeral of a number. -/
abbrev dec (n : Nat) : List UInt8 := Lib.decDigits n
theorem dec_small {n : Nat} (h : n < 10) : dec n = [UInt8.ofNat (48 + n)] := by unfold dec; rw [Lib.decDigits, dif_pos h]
theorem dec_ten {n : Nat} (h : 10 ≤ n) : dec n = dec (n / 10) ++ [UInt8.ofNat (48 + n % 10)] := by unfold dec; rw [Lib.decDigits, dif_neg (by omega)]
def padk : Nat → Nat → List UInt8
  | 0, _ => []
  | k + 1, r => padk k (r / 10) ++ [UInt8.ofNat (48 + r % 10)]
theorem dec_join {q : Nat} (hq : 0 < q) : ∀ (k r : Nat), r < 10 ^ k → dec (q * 10 ^ k + r) = dec q ++ padk k r
  | 0, r, h => by
    have : r = 0 := by simpa using h
    subst this
    simp [padk]
  | k + 1, r, h => by
    have hp : 1 ≤ 10 ^ k := Nat.one_le_pow _ _ (by decide)
    have h1 : 1 * (10 ^ k * 10) ≤ q * (10 ^ k * 10) := Nat.mul_le_mul_right _ hq
    rw [Nat.pow_succ] at h ⊢
    have e : q * (10 ^ k * 10) + r = 10 * (q * 10 ^ k + r / 10) + r % 10 := by
      rw [Nat.mul_add, Nat.mul_comm (10 ^ k), Nat.mul_left_comm]
      omega
    generalize hQ : q * 10 ^ k = Q at e
    have e1 : (q * (10 ^ k * 10) + r) / 10 = q * 10 ^ k + r / 10 := by rw [e, hQ]; omega
    have e2 : (q * (10 ^ k * 10) + r) % 10 = r % 10 := by rw [e]; omega
    rw [dec_ten (by omega), e1, e2, padk, ← List.append_assoc, ← dec_join hq k (r / 10) (by omega)]
theorem padk_eq : ∀ (k r : Nat), r < 10 ^ (k + 1) → (dec r).length ≤ k + 1 ∧ padk (k + 1) r = List.replicate (k + 1 - (dec r).length) 48 ++ dec r
  | 0, r, h => by
    have h : r < 10 := by simpa using h
    rw [dec_small h]
    refine ⟨by simp, ?_⟩
    simp [padk, Nat.mod_eq_of_lt h]
  | k + 1, r, h => by
    by_cases h10 : r < 10
    · rw [dec_small h10]
      refine ⟨by simp, ?_⟩
      have h0 := (padk_eq k 0 (Nat.pow_pos (by decide))).2
      rw [padk, show r / 10 = 0 by omega, h0, dec_small (by decide), Nat.mod_eq_of_lt h10]
      simp only [List.length_cons, List.length_nil, Nat.add_sub_cancel, Nat.zero_add]
      rw [show UInt8.ofNat 48 = 48 from rfl, show k + 1 = k + 1 from rfl, List.replicate_succ']
    · rw [Nat.pow_succ] at h
      obtain ⟨h1, h2⟩ := padk_eq k (r / 10) (by omega)
      rw [dec_ten (by omega)]
      refine ⟨by simp only [List.length_append, List.length_cons, List.length_nil]; omega, ?_⟩
      rw [padk, h2]
      simp only [List.length_append, List.length_cons, List.length_nil, List.append_assoc]
      rw [show k + 1 + 1 - ((dec (r / 10)).length + (0 + 1)) = k + 1 - (dec (r / 10)).length by omega]
def pad9 (r : Nat) : List UInt8 := List.replicate (9 - (dec r).length) 48 ++ dec r
theorem dec_len9 {r : Nat} (h : r < 1000000000) : (dec r).length ≤ 9 := (padk_eq 8 r (by simpa using h)).1
theorem dec_group {q r : Nat} (hq : 0 < q) (h : r < 1000000000) : dec (q * 1000000000 + r) = dec q ++ pad9 r := by
  have h1 := dec_join hq 9 r (by simpa using h)
  rw [(padk_eq 8 r (by simpa using h)).2] at h1
  exact h1
theorem pad9_len {r : Nat} (h : r < 1000000000) : (pad9 r).length = 9 := by
  have := dec_len9 h
  unfold pad9
  rw [List.length_append, List.length_replicate]
  omega
/-- What holds at the head of Format's loop. -/
structure Dg (N n X : Nat) (gs : List (List UInt8)) : Prop where
  len : gs.length ≤ 32 * n
  one : ∀ g ∈ gs, g.length ≤ 9
  x : X = N / 1000000000 ^ gs.length
  nz : gs ≠ [] → N ≠ 0
  d : dec N = (if X = 0 ∧ gs ≠ [] then [] else dec X) ++ gs.reverse.flatten
theorem Dg.start (N n : Nat) : Dg N n N [] := ⟨by simp, fun g hg => (by cases hg), by simp, fun h => absurd rfl h, by simp⟩
def grp (X : Nat) : List UInt8 := if X / 1000000000 = 0 then dec (X % 1000000000) else pad9 (X % 1000000000)
theorem pow9_ge (k : Nat) : 2 ^ k ≤ 1000000000 ^ k := Nat.pow_le_pow_left (by decide) k
theorem Dg.next {N n X : Nat} {gs : List (List UInt8)} (h : Dg N n X gs) (hN : N < 4294967296 ^ n) (hX : X ≠ 0) : Dg N n (X / 1000000000) (gs ++ [grp X]) := by
  have hN0 : N ≠ 0 := fun e => by have := h.x; rw [e, Nat.zero_div] at this; exact hX this
  have hr : X % 1000000000 < 1000000000 := Nat.mod_lt _ (by decide)
  refine ⟨?_, ?_, ?_, fun _ => hN0, ?_⟩
  · have h1 : 1000000000 ^ gs.length ≤ N := by
      apply Classical.byContradiction
      intro hn
      have := h.x
      rw [Nat.div_eq_of_lt (by omega)] at this
      exact hX this
    have h2 := pow9_ge gs.length
    rw [powB] at hN
    have h3 : 2 ^ gs.length < 2 ^ (32 * n) := by omega
    have h4 := (Nat.pow_lt_pow_iff_right (show 1 < 2 by decide)).1 h3
    rw [List.length_append, List.length_cons, List.length_nil]
    omega
  · intro g hg
    rcases List.mem_append.1 hg with h1 | h1
    · exact h.one g h1
    · simp only [List.mem_singleton] at h1
      subst h1
      unfold grp
      split
      · exact dec_len9 hr
      · exact Nat.le_of_eq (pad9_len hr)
  · rw [List.length_append, List.length_cons, List.length_nil, Nat.pow_succ, ← Nat.div_div_eq_div_mul, ← h.x]
  · rw [h.d, if_neg (fun e => hX e.1), List.reverse_append, List.reverse_singleton, List.singleton_append, List.flatten_cons, ← List.append_assoc]
    congr 1
    unfold grp
    by_cases hq : X / 1000000000 = 0
    · rw [if_pos ⟨hq, by simp⟩, if_pos hq, List.nil_append]
      congr 1
      omega
    · rw [if_neg (fun e => hq e.1), if_neg hq, ← dec_group (by omega) hr]
      congr 1
      omega
theorem Dg.bytes {N n X : Nat} {gs : List (List UInt8)} (h : Dg N n X gs) : gs.flatten.length ≤ 9 * gs.length := by
  have : ∀ (l : List (List UInt8)), (∀ g ∈ l, g.length ≤ 9) → l.flatten.length ≤ 9 * l.length := by
    intro l
    induction l with
    | nil => intro _; simp
    | cons a l ih =>
      intro h
      have h1 := ih (fun g hg => h g (List.mem_cons_of_mem _ hg))
      have h2 := h a List.mem_cons_self
      rw [List.flatten_cons, List.length_append, List.length_cons]
      omega
  exact this gs h.one
theorem Fr.setCells (b : Nat) : ∀ (vs : List Value) (o : Nat) (w : World), Fr [b] w (w.setCells b o vs)
  | [], _, _ => Fr.refl _ _
  | v :: vs, o, w => by
    rw [World.setCells]
    refine Fr.trans ?_ (Fr.setCells b vs (o + 1) _)
    exact ⟨rfl, rfl, rfl, by simp, fun k hk hn => Below.heap_setCell w _ v k (by simpa using hn)⟩
theorem reverse_any {w : World} {g c n : Nat} {e : TypeId} (gs : List (List UInt8)) (pad : List Value) (hln : gs.length = n) (hg : w.heap[g]? = some (.cells ((gs.map strV) ++ pad).toArray e (0, 0))) (hn : gs.length ≤ 1000000) :
    Calls Tryz.prog 119 #[.slice (some ⟨g, 0, none⟩) n c] w fun e w' => e = .returned (.tuple #[]) ∧ Fr [g] w w' ∧ g < w'.heap.size ∧ ∀ (j : Nat) x, gs.reverse[j]? = some x → w'.cell? ⟨g, 0 + j, none⟩ = some (strV x) := by
  subst hln
  have hS : Lib.strsOf (fun i => ⟨(gs.getD i []).toArray⟩) gs.length = gs := by
    unfold Lib.strsOf
    apply List.ext_getElem
    · simp
    · intro i h1 h2
      simp [List.getD, List.getElem?_eq_getElem h2]
  have hc : ∀ i, i < gs.length → w.cell? ⟨g, 0 + i, none⟩ = some (strV (gs.getD i [])) := by
    intro i hi
    rw [cell_of_row w g _ _ _ _ hg, Nat.zero_add]
    simp [List.getElem?_append_left, hi, List.getD, List.getElem?_eq_getElem hi]
  refine Calls.mono (Tryz.slices_Reverse_string_cells g 0 gs.length c (fun i => ⟨(gs.getD i []).toArray⟩) w (by omega) hc (fun j _ => frozen_of_row w g _ _ _ hg)) ?_
  rintro e w' ⟨rfl, q, rfl⟩
  rw [hS]
  have hF : Fr [g] w ((w.drewN q).setCells g 0 (gs.reverse.map encStr)) := (⟨rfl, rfl, rfl, Nat.le_refl _, fun _ _ _ => rfl⟩ : Fr [g] w (w.drewN q)).trans (Fr.setCells g _ _ _)
  refine ⟨rfl, hF, Nat.lt_of_lt_of_le (Array.getElem?_eq_some_iff.1 hg).1 hF.size, fun j x hx => ?_⟩
  have hj := (List.getElem?_eq_some_iff.1 hx).1
  have h1 := World.cell?_setCells_in g (gs.reverse.map encStr) 0 (w.drewN q) (fun i hi => by
    have h2 := hc i (by simpa using hi)
    show (w.cell? _).isSome = true
    rw [h2]; rfl) j (by simpa using hj)
  rw [h1]
  simp only [List.getElem_map]
  have h3 := (List.getElem?_eq_some_iff.1 hx).2
  rw [h3]
  rfl
section
variable {P : Program} {w : World} {a : Act} {o : Oper}
theorem ev_strAdd {t t' : TypeId} {x y : Operand} (ho : o.op = .binOp .add t x y t') {s r : List UInt8} (hx : a.eval x = strV s) (hy : a.eval y = strV r) (hl : s.length + r.length ≤ 1000000000) : (execOp a.eval o).run P w = .ok (.value (strV (s ++ r))) w := by
  have e1 : (eqGuard .add t x y (strV s) (strV r)).run P w = .ok () w := by unfold eqGuard; simp
  unfold execOp
  simp only [ho, hx, hy, Sem.run_bind, e1, Result.andThen_ok, binOp]
  have e : (⟨s.toArray⟩ : ByteArray) ++ ⟨r.toArray⟩ = ⟨(s ++ r).toArray⟩ := by
    apply ByteArray.ext
    simp [ByteArray.data_append]
  have e2 : (Op.stringOp .add ⟨s.toArray⟩ ⟨r.toArray⟩).run P w = .ok (strV (s ++ r)) w := by
    unfold Op.stringOp
    have hn : ¬ (((ByteArray.mk s.toArray).size + (ByteArray.mk r.toArray).size : Nat) : Int) > IntKind.i64.max := by
      show ¬ (((s.toArray.size + r.toArray.size : Nat) : Int) > 9223372036854775807)
      simp only [List.size_toArray]
      omega
    simp only [if_neg hn, e]
    rfl
  show ((Op.stringOp .add ⟨s.toArray⟩ ⟨r.toArray⟩).run P w).andThen _ = _
  rw [e2]
  rfl
end
end Go.Proofs.YthbeeeclgbpopaaGreatDoor
