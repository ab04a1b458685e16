import Derived.Lib.SplitLaws
import Derived.Lib.FieldsP
import Derived.Lib.DecodeN
import Derived.Test.YtbiohhmpclnpgaaGreatDoorXDc13
namespace Go.Proofs.YtbiohhmpclnpgaaGreatDoor
open Go
set_option linter.unusedSimpArgs false
set_option linter.unusedVariables false
def noCR (l : List UInt8) : List UInt8 := if l.getLast? = some 13 then l.dropLast else l
def lns : List UInt8 → List UInt8 → List (List UInt8)
 | cur, [] => if cur = [] then [] else [noCR cur]
 | cur, b :: r => if b = 10 then noCR cur :: lns [] r else lns (cur ++ [b]) r
def mlines (b : List UInt8) : List (List UInt8) := lns [] b
def nl : List UInt8 → List UInt8 → List (List UInt8)
 | cur, [] => [cur]
 | cur, b :: r => if b = 10 then cur :: nl [] r else nl (cur ++ [b]) r
def trimLast (l : List (List UInt8)) : List (List UInt8) := if l.getLast? = some [] then l.dropLast else l
theorem nl_ne : ∀ (r cur : List UInt8), nl cur r ≠ []
 | [], _ => by simp [nl]
 | b :: r, cur => by
  unfold nl
  split
  ·simp
  ·exact nl_ne r _
theorem lns_nl : ∀ (r cur : List UInt8), lns cur r = (trimLast (nl cur r)).map noCR
 | [], cur => by
  by_cases h : cur = []
  ·simp [lns, nl, trimLast, h]
  ·simp [lns, nl, trimLast, h]
 | b :: r, cur => by
  unfold lns nl
  by_cases h : b = 10
  ·rw [if_pos h, if_pos h, lns_nl r []]
   have hn := nl_ne r []
   obtain ⟨x, t, hx⟩ := List.exists_cons_of_ne_nil hn
   unfold trimLast
   rw [hx, List.getLast?_cons_cons]
   split
   ·rw [List.dropLast_cons_cons, List.map_cons]
   ·rw [List.map_cons, List.map_cons, List.map_cons]
  ·rw [if_neg h, if_neg h]
   exact lns_nl r _
theorem nl_app : ∀ (s r cur : List UInt8), (10 : UInt8) ∉ s → nl cur (s ++ r) = nl (cur ++ s) r
 | [], r, cur, _ => by simp
 | b :: s, r, cur, h => by
  have h1 : b ≠ 10 := fun e => h (by simp [e])
  rw [List.cons_append, nl, if_neg h1, nl_app s r _ (fun m => h (List.mem_cons_of_mem _ m))]
  simp
theorem index_one (c : UInt8) : ∀ (s : List UInt8), (Lib.index s [c] = -1 ∧ c ∉ s) ∨ ∃ i : Nat, Lib.index s [c] = i ∧ i < s.length ∧ c ∉ s.take i ∧ s = s.take i ++ c :: s.drop (i + 1)
 | [] => .inl (by simp [Lib.index])
 | b :: l => by
  by_cases h : b = c
  ·subst h
   exact .inr ⟨0, by rw [Lib.index]; simp [List.isPrefixOf], by simp, by simp, by simp⟩
  ·have hp : ([c] : List UInt8).isPrefixOf (b :: l) = false := by simp [List.isPrefixOf, Ne.symm h]
   have hix : Lib.index (b :: l) [c] = if Lib.index l [c] == -1 then -1 else Lib.index l [c] + 1 := by rw [Lib.index, hp]; simp
   rcases index_one c l with ⟨h1, h2⟩ | ⟨i, h1, h2, h3, h4⟩
   ·left
    rw [hix, h1]
    exact ⟨rfl, by simp [Ne.symm h, h2]⟩
   ·right
    refine ⟨i + 1, ?_, by simp [h2], by simp [Ne.symm h, h3], ?_⟩
    ·rw [hix, h1, if_neg (by simp)]; omega
    ·simp only [List.take_succ_cons, List.drop_succ_cons, List.cons_append]
     rw [← h4]
theorem splitK_nl : ∀ (k : Nat) (s : List UInt8), s.count 10 = k → Lib.splitK [10] 0 k s = nl [] s
 | 0, s, h => by
  have h0 : (10 : UInt8) ∉ s := List.count_eq_zero.1 h
  have e := nl_app s [] [] h0
  rw [List.append_nil] at e
  rw [e]
  rfl
 | k + 1, s, h => by
  rcases index_one 10 s with ⟨h1, h2⟩ | ⟨i, h1, h2, h3, h4⟩
  ·rw [List.count_eq_zero.2 h2] at h; omega
  ·have hc : (s.drop (i + 1)).count 10 = k := by
    rw [h4, List.count_append, List.count_eq_zero.2 h3, List.count_cons] at h
    simpa using h
   rw [Lib.splitK]
   simp only [h1]
   rw [if_neg (by simp)]
   conv => rhs; rw [h4, nl_app _ _ _ h3, nl, if_pos rfl, List.nil_append]
   rw [← splitK_nl k _ hc]
   simp
end Go.Proofs.YtbiohhmpclnpgaaGreatDoor
namespace Go.Proofs.YtbiohhmpclnpgaaGreatDoor
open Go
set_option linter.unusedSimpArgs false
set_option linter.unusedVariables false
def isW (b : UInt8) : Bool := b == 32 || b == 9
def wds : List UInt8 → List UInt8 → List (List UInt8)
 | cur, [] => if cur = [] then [] else [cur]
 | cur, b :: r => if isW b then (if cur = [] then wds [] r else cur :: wds [] r) else wds (cur ++ [b]) r
def mwords (s : List UInt8) : List (List UInt8) := wds [] s
end Go.Proofs.YtbiohhmpclnpgaaGreatDoor
namespace Go.Proofs.YtbiohhmpclnpgaaGreatDoor
set_option linter.unusedSimpArgs false
set_option linter.unusedVariables false
def low1 (b : UInt8) : UInt8 := if 65 ≤ b.toNat ∧ b.toNat ≤ 90 then b + 32 else b
def low (s : List UInt8) : List UInt8 := s.map low1
def sMM : List UInt8 := [37, 37, 109, 97, 116, 114, 105, 120, 109, 97, 114, 107, 101, 116]
def sMat : List UInt8 := [109, 97, 116, 114, 105, 120]
def sCoo : List UInt8 := [99, 111, 111, 114, 100, 105, 110, 97, 116, 101]
def sArr : List UInt8 := [97, 114, 114, 97, 121]
def sFlds : List (List UInt8) := [[114, 101, 97, 108], [105, 110, 116, 101, 103, 101, 114], [112, 97, 116, 116, 101, 114, 110]]
def sSyms : List (List UInt8) := [[103, 101, 110, 101, 114, 97, 108], [115, 121, 109, 109, 101, 116, 114, 105, 99], [115, 107, 101, 119, 45, 115, 121, 109, 109, 101, 116, 114, 105, 99]]
structure Hd where
 arr : Bool
 field : Nat
 sym : Nat
def hdr (line : List UInt8) : Option Hd :=
 match (mwords line).map low with
 | [a, b, c, d, e] =>
  if a = sMM ∧ b = sMat ∧ (c = sCoo ∨ c = sArr) ∧ d ∈ sFlds ∧ e ∈ sSyms ∧ ¬ (c = sArr ∧ sFlds.idxOf d = 2) then some ⟨decide (c = sArr), sFlds.idxOf d, sSyms.idxOf e⟩ else none
 | _ => none
def skip : List (List UInt8) → Bool
 | [] => true
 | x :: _ => x.head? == some 37
def isNum (s : List UInt8) : Bool := s.all dig && !s.isEmpty
def stored (sym m n : Nat) : Nat := if sym = 1 then m * (m + 1) / 2 else if sym = 2 then m * (m - 1) / 2 else m * n
def finF (f : Nat) : Bool := f / 4503599627370496 % 2048 != 2047
def rndZ (z : Int) : Nat := if z = 0 then 0 else rndF (decide (z < 0)) 0 z.natAbs 1 0
def fval (field : Nat) (s : List UInt8) : Option Nat :=
 if field = 1 then (if (pz s).2 = 0 ∧ finF (rndZ (pz s).1) = true then some (rndZ (pz s).1) else none)
 else (if (dpz 1024 s 0).2 = 0 ∧ finF (dpz 1024 s 0).1 = true then some (dpz 1024 s 0).1 else none)
def may (sym i j : Nat) : Bool := sym == 0 || decide (j < i) || (sym == 1 && i == j)
def posOf (h : Hd) (m n : Nat) (w : List (List UInt8)) : Option (Nat × Nat) :=
 let i := num (w.getD 0 []); let j := num (w.getD 1 [])
 if w.length = (if h.field = 2 then 2 else 3) ∧ isNum (w.getD 0 []) = true ∧ isNum (w.getD 1 []) = true ∧ 1 ≤ i ∧ i ≤ m ∧ 1 ≤ j ∧ j ≤ n ∧ may h.sym i j = true then some (i - 1, j - 1) else none
def allp (sym m n : Nat) : List (Nat × Nat) := (List.range n).flatMap fun j => ((List.range m).filter fun i => may sym i j).map fun i => (i, j)
abbrev En := Nat × Nat × Nat
def one (h : Hd) (m n k : Nat) (w : List (List UInt8)) : Option En :=
 if h.arr then
  (if w.length = 1 then (fval h.field (w.getD 0 [])).map fun f => (((allp h.sym m n).getD k (0, 0)).1, ((allp h.sym m n).getD k (0, 0)).2, f) else none)
 else match posOf h m n w with
  | none => none
  | some p => if h.field = 2 then some (p.1, p.2, 4607182418800017408) else (fval h.field (w.getD 2 [])).map fun f => (p.1, p.2, f)
def seen (L : List En) (x : En) : Bool := L.any fun y => y.1 == x.1 && y.2.1 == x.2.1
def negF (f : Nat) : Nat := if f < 9223372036854775808 then f + 9223372036854775808 else f - 9223372036854775808
def mirr (sym : Nat) (L : List En) : List En := L ++ (L.filter fun x => !(sym == 0 || x.1 == x.2.1)).map fun x => (x.2.1, x.1, if sym = 2 then negF x.2.2 else x.2.2)
def colE (L : List En) (m j : Nat) : List En := (List.range m).filterMap fun i => L.find? fun x => x.1 == i && x.2.1 == j
def entP (L : List En) (m n : Nat) : List En := (List.range n).flatMap (colE L m)
def pre (S : List En) (j : Nat) : Nat := (S.filter fun x => decide (x.2.1 < j)).length
end Go.Proofs.YtbiohhmpclnpgaaGreatDoor
namespace Go.Proofs.YtbiohhmpclnpgaaGreatDoor
set_option linter.unusedSimpArgs false
set_option linter.unusedVariables false
end Go.Proofs.YtbiohhmpclnpgaaGreatDoor
namespace Go.Proofs.YtbiohhmpclnpgaaGreatDoor
set_option linter.unusedSimpArgs false
set_option linter.unusedVariables false
def ltE (x y : En) : Prop := x.2.1 < y.2.1 ∨ (x.2.1 = y.2.1 ∧ x.1 < y.1)
def leE (x y : En) : Prop := x.2.1 < y.2.1 ∨ (x.2.1 = y.2.1 ∧ x.1 ≤ y.1)
def apE (x y : En) : Prop := ¬ (x.1 = y.1 ∧ x.2.1 = y.2.1)
theorem ltE.irrefl (x : En) : ¬ ltE x x := by unfold ltE; omega
theorem ltE.trans {x y z : En} (h : ltE x y) (k : ltE y z) : ltE x z := by unfold ltE at *; omega
theorem leE.trans {x y z : En} (h : leE x y) (k : leE y z) : leE x z := by unfold leE at *; omega
theorem leE.total (x y : En) : leE x y ∨ leE y x := by unfold leE; omega
theorem leE.refl (x : En) : leE x x := by unfold leE; omega
theorem ltE.le {x y : En} (h : ltE x y) : leE x y := by unfold ltE at h; unfold leE; omega
theorem leE.lt {x y : En} (h : leE x y) (k : apE x y) : ltE x y := by unfold leE at h; unfold apE at k; unfold ltE; omega
theorem apE.symm {x y : En} (h : apE x y) : apE y x := by unfold apE at *; omega
theorem ltE.ap {x y : En} (h : ltE x y) : apE x y := by unfold ltE at h; unfold apE; omega
theorem sorted_uniq : ∀ {A B : List En}, A.Pairwise ltE → B.Pairwise ltE → (∀ x, x ∈ A ↔ x ∈ B) → A = B
 | [], [], _, _, _ => rfl
 | [], b :: B, _, _, h => by have := (h b).2 (by simp); cases this
 | a :: A, [], _, _, h => by have := (h a).1 (by simp); cases this
 | a :: A, b :: B, hA, hB, h => by
  obtain ⟨hA1, hA2⟩ := List.pairwise_cons.1 hA
  obtain ⟨hB1, hB2⟩ := List.pairwise_cons.1 hB
  have hab : a = b := by
   rcases List.mem_cons.1 ((h a).1 (by simp)) with e | e
   ·exact e
   ·rcases List.mem_cons.1 ((h b).2 (by simp)) with e2 | e2
    ·exact e2.symm
    ·exact absurd ((hB1 a e).trans (hA1 b e2)) (ltE.irrefl b)
  subst hab
  congr 1
  refine sorted_uniq hA2 hB2 fun x => ?_
  constructor
  ·intro hx
   rcases List.mem_cons.1 ((h x).1 (List.mem_cons_of_mem _ hx)) with e | e
   ·subst e; exact absurd (hA1 x hx) (ltE.irrefl x)
   ·exact e
  ·intro hx
   rcases List.mem_cons.1 ((h x).2 (List.mem_cons_of_mem _ hx)) with e | e
   ·subst e; exact absurd (hB1 x hx) (ltE.irrefl x)
   ·exact e
theorem strict_of {S : List En} (h : S.Pairwise leE) (k : S.Pairwise apE) : S.Pairwise ltE := by
 induction S with
 | nil => exact .nil
 | cons a S ih =>
  obtain ⟨h1, h2⟩ := List.pairwise_cons.1 h
  obtain ⟨k1, k2⟩ := List.pairwise_cons.1 k
  exact List.pairwise_cons.2 ⟨fun x hx => (h1 x hx).lt (k1 x hx), ih h2 k2⟩
theorem perm_ap {L S : List En} (h : L.Perm S) (k : L.Pairwise apE) : S.Pairwise apE := h.pairwise k (fun h => apE.symm h)
theorem ap_mem : ∀ {L : List En}, L.Pairwise apE → ∀ {x y : En}, x ∈ L → y ∈ L → x ≠ y → apE x y
 | a :: L, h, x, y, hx, hy, hne => by
  obtain ⟨h1, h2⟩ := List.pairwise_cons.1 h
  rcases List.mem_cons.1 hx with e | e
  ·rcases List.mem_cons.1 hy with e2 | e2
   ·exact absurd (e.trans e2.symm) hne
   ·rw [e]; exact h1 y e2
  ·rcases List.mem_cons.1 hy with e2 | e2
   ·rw [e2]; exact (h1 x e).symm
   ·exact ap_mem h2 e e2 hne
theorem mem_colE {L : List En} {m j : Nat} {x : En} (hL : L.Pairwise apE) : x ∈ colE L m j ↔ x ∈ L ∧ x.1 < m ∧ x.2.1 = j := by
 unfold colE
 rw [List.mem_filterMap]
 constructor
 ·rintro ⟨i, hi, h⟩
  have h1 := List.mem_of_find?_eq_some h
  have h2 := List.find?_some h
  simp only [Bool.and_eq_true, beq_iff_eq] at h2
  exact ⟨h1, by rw [h2.1]; exact List.mem_range.1 hi, h2.2⟩
 ·rintro ⟨h1, h2, h3⟩
  refine ⟨x.1, List.mem_range.2 h2, ?_⟩
  cases hf : L.find? (fun y => y.1 == x.1 && y.2.1 == j) with
  | none =>
   have := List.find?_eq_none.1 hf x h1
   simp [h3] at this
  | some y =>
   have h4 := List.mem_of_find?_eq_some hf
   have h5 := List.find?_some hf
   simp only [Bool.and_eq_true, beq_iff_eq] at h5
   congr 1
   by_cases e : y = x
   ·exact e
   ·exfalso
    have := ap_mem hL h4 h1 e
    exact this ⟨h5.1, by rw [h5.2, h3]⟩
theorem mem_entP {L : List En} {m n : Nat} (hL : L.Pairwise apE) (hb : ∀ x ∈ L, x.1 < m ∧ x.2.1 < n) (x : En) : x ∈ entP L m n ↔ x ∈ L := by
 unfold entP
 rw [List.mem_flatMap]
 constructor
 ·rintro ⟨j, _, h⟩
  exact ((mem_colE hL).1 h).1
 ·intro h
  exact ⟨x.2.1, List.mem_range.2 (hb x h).2, (mem_colE hL).2 ⟨h, (hb x h).1, rfl⟩⟩
theorem colE_sorted (L : List En) (m j : Nat) : (colE L m j).Pairwise ltE := by
 unfold colE
 rw [List.pairwise_filterMap]
 refine List.pairwise_lt_range.imp ?_
 intro a b hab x hx y hy
 have h1 := List.find?_some hx
 have h2 := List.find?_some hy
 simp only [Bool.and_eq_true, beq_iff_eq] at h1 h2
 unfold ltE
 omega
theorem entP_sorted (L : List En) (m n : Nat) : (entP L m n).Pairwise ltE := by
 unfold entP
 rw [List.pairwise_flatMap]
 refine ⟨fun j _ => colE_sorted L m j, List.pairwise_lt_range.imp ?_⟩
 intro a b hab x hx y hy
 unfold colE at hx hy
 obtain ⟨i, _, h1⟩ := List.mem_filterMap.1 hx
 obtain ⟨i', _, h2⟩ := List.mem_filterMap.1 hy
 have h1 := List.find?_some h1
 have h2 := List.find?_some h2
 simp only [Bool.and_eq_true, beq_iff_eq] at h1 h2
 unfold ltE
 omega
theorem sort_eq {L S : List En} {m n : Nat} (hL : L.Pairwise apE) (hb : ∀ x ∈ L, x.1 < m ∧ x.2.1 < n) (hp : L.Perm S) (hs : S.Pairwise leE) : S = entP L m n :=
 sorted_uniq (strict_of hs (perm_ap hp hL)) (entP_sorted L m n) fun x => by rw [mem_entP hL hb, hp.mem_iff]
end Go.Proofs.YtbiohhmpclnpgaaGreatDoor
namespace Go.Proofs.YtbiohhmpclnpgaaGreatDoor
set_option linter.unusedSimpArgs false
set_option linter.unusedVariables false
def cntE (S : List En) (j : Nat) : Nat := (S.filter fun x => decide (x.2.1 = j)).length
def stsE (A : List En) (cols : Nat) : List Nat := 0 :: (List.range cols).map (cntE A)
def mixE (S : List En) (cols j : Nat) : List Nat := (List.range (j + 1)).map (pre S) ++ ((List.range cols).drop j).map (cntE S)
theorem pre_zero (S : List En) : pre S 0 = 0 := by unfold pre; simp
theorem pre_succ (S : List En) (j : Nat) : pre S (j + 1) = cntE S j + pre S j := by
 unfold pre cntE
 induction S with
 | nil => rfl
 | cons x S ih =>
  rw [List.filter_cons, List.filter_cons, List.filter_cons]
  by_cases h1 : x.2.1 < j
  ·have h2 : x.2.1 < j + 1 := by omega
   have h3 : ¬ x.2.1 = j := by omega
   simp only [h1, h2, h3, decide_true, decide_false, if_true, Bool.false_eq_true, if_false, List.length_cons]
   omega
  ·by_cases h3 : x.2.1 = j
   ·have h2 : x.2.1 < j + 1 := by omega
    simp only [h1, h2, h3, decide_true, decide_false, if_true, Bool.false_eq_true, if_false, List.length_cons]
    have h4 : j < j + 1 := by omega
    simp only [h4, Nat.lt_irrefl, decide_true, decide_false, if_true, Bool.false_eq_true, if_false, List.length_cons]
    omega
   ·have h2 : ¬ x.2.1 < j + 1 := by omega
    simp only [h1, h2, h3, decide_true, decide_false, if_true, Bool.false_eq_true, if_false, List.length_cons]
    exact ih
theorem cntE_le (S : List En) (j : Nat) : cntE S j ≤ S.length := List.length_filter_le _ _
theorem pre_le (S : List En) (j : Nat) : pre S j ≤ S.length := List.length_filter_le _ _
theorem cntE_snoc (A : List En) (x : En) (j : Nat) : cntE (A ++ [x]) j = if x.2.1 = j then cntE A j + 1 else cntE A j := by
 unfold cntE
 rw [List.filter_append, List.length_append]
 by_cases h : x.2.1 = j <;> simp [h]
theorem stsE_len (A : List En) (cols : Nat) : (stsE A cols).length = cols + 1 := by simp [stsE]
theorem stsE_nil (cols : Nat) : stsE [] cols = List.replicate (cols + 1) 0 := by
 unfold stsE
 rw [List.replicate_succ]
 congr 1
 apply List.ext_getElem?
 intro i
 rw [List.getElem?_map, List.getElem?_replicate]
 by_cases h : i < cols
 ·rw [List.getElem?_range h, if_pos h]; rfl
 ·rw [if_neg h, List.getElem?_eq_none (by simp; omega)]; rfl
theorem stsE_at {A : List En} {cols j : Nat} (h : j < cols) : (stsE A cols)[j + 1]? = some (cntE A j) := by
 unfold stsE
 rw [List.getElem?_cons_succ, List.getElem?_map, List.getElem?_range h]
 rfl
theorem stsE_next {A : List En} {x : En} {cols : Nat} (h : x.2.1 < cols) : (stsE A cols).set (x.2.1 + 1) (cntE A x.2.1 + 1) = stsE (A ++ [x]) cols := by
 unfold stsE
 rw [List.set_cons_succ]
 congr 1
 apply List.ext_getElem?
 intro i
 rw [List.getElem?_set, List.getElem?_map, List.getElem?_map]
 by_cases h1 : i < cols
 ·rw [List.getElem?_range h1]
  by_cases h2 : x.2.1 = i
  ·subst h2
   rw [if_pos rfl, if_pos (by simpa using h)]
   simp only [Option.map_some]
   rw [cntE_snoc, if_pos rfl]
  ·rw [if_neg h2]
   simp only [Option.map_some]
   rw [cntE_snoc, if_neg h2]
 ·rw [List.getElem?_eq_none (by simp; omega), if_neg (by omega)]; rfl
theorem mixE_zero (S : List En) (cols : Nat) : mixE S cols 0 = stsE S cols := by
 unfold mixE stsE
 simp [pre_zero, List.range_succ]
theorem mixE_len {S : List En} {cols j : Nat} (h : j ≤ cols) : (mixE S cols j).length = cols + 1 := by simp [mixE]; omega
theorem mixE_lo {S : List En} {cols j : Nat} : (mixE S cols j)[j]? = some (pre S j) := by
 unfold mixE
 rw [List.getElem?_append_left (by simp), List.getElem?_map, List.getElem?_range (by omega)]
 rfl
theorem mixE_hi {S : List En} {cols j : Nat} (h : j < cols) : (mixE S cols j)[j + 1]? = some (cntE S j) := by
 unfold mixE
 rw [List.getElem?_append_right (by simp), List.getElem?_map, List.getElem?_drop]
 simp [h]
theorem mixE_next {S : List En} {cols j : Nat} (h : j < cols) : (mixE S cols j).set (j + 1) (cntE S j + pre S j) = mixE S cols (j + 1) := by
 have e : (List.range cols).drop j = j :: (List.range cols).drop (j + 1) := by
  rw [List.drop_eq_getElem_cons (by simpa using h)]
  simp
 unfold mixE
 rw [e, List.map_cons, List.set_append_right _ _ (by simp), List.range_succ (n := j + 1), List.map_append, List.append_assoc]
 congr 1
 simp [pre_succ]
theorem mixE_end (S : List En) (cols : Nat) : mixE S cols cols = (List.range (cols + 1)).map (pre S) := by
 unfold mixE
 rw [List.drop_of_length_le (by simp)]
 simp
theorem sorted_cut : ∀ {S : List En}, S.Pairwise ltE → ∀ j, S.filter (fun x => decide (x.2.1 < j)) ++ S.filter (fun x => !decide (x.2.1 < j)) = S
 | [], _, _ => rfl
 | x :: S, h, j => by
  obtain ⟨h1, h2⟩ := List.pairwise_cons.1 h
  by_cases k : x.2.1 < j
  ·rw [List.filter_cons_of_pos (by simpa using k), List.filter_cons_of_neg (by simpa using k), List.cons_append, sorted_cut h2 j]
  ·have e : S.filter (fun x => decide (x.2.1 < j)) = [] := by
    rw [List.filter_eq_nil_iff]
    intro y hy
    have := h1 y hy
    unfold ltE at this
    simp
    omega
   have e2 : S.filter (fun x => !decide (x.2.1 < j)) = S := by
    have := sorted_cut h2 j
    rw [e, List.nil_append] at this
    exact this
   rw [List.filter_cons_of_neg (by simpa using k), List.filter_cons_of_pos (by simpa using k), e, e2, List.nil_append]
theorem col_take {S : List En} (h : S.Pairwise ltE) (j : Nat) : S.take (pre S j) = S.filter fun x => decide (x.2.1 < j) := by
 have e : S.take (pre S j) = (S.filter (fun x => decide (x.2.1 < j)) ++ S.filter (fun x => !decide (x.2.1 < j))).take (pre S j) := by rw [sorted_cut h j]
 rw [e]
 exact List.take_left' rfl
theorem col_drop {S : List En} (h : S.Pairwise ltE) (j : Nat) : S.drop (pre S j) = S.filter fun x => !decide (x.2.1 < j) := by
 have e := sorted_cut h j
 have : pre S j = (S.filter fun x => decide (x.2.1 < j)).length := rfl
 rw [this]
 conv => lhs; rw [← e]
 rw [List.drop_left' (by rw [e])]
theorem col_part {S : List En} (h : S.Pairwise ltE) (j : Nat) : (S.drop (pre S j)).take (cntE S j) = S.filter fun x => decide (x.2.1 = j) := by
 have h2 : (S.drop (pre S j)).Pairwise ltE := h.sublist (List.drop_sublist _ _)
 have e := sorted_cut h2 (j + 1)
 have e2 : (S.drop (pre S j)).filter (fun x => decide (x.2.1 < j + 1)) = S.filter fun x => decide (x.2.1 = j) := by
  rw [col_drop h, List.filter_filter]
  apply List.filter_congr
  intro x _
  rw [Bool.eq_iff_iff]
  simp
  omega
 rw [e2] at e
 have : cntE S j = (S.filter fun x => decide (x.2.1 = j)).length := rfl
 rw [this]
 conv => lhs; rw [← e]
 exact List.take_left' rfl
theorem sorted_rows {S : List En} (h : S.Pairwise ltE) (j : Nat) : (((S.drop (pre S j)).take (cntE S j)).map (·.1)).Pairwise (· < ·) := by
 rw [col_part h, List.pairwise_map]
 refine (List.Pairwise.and_mem.1 (h.filter _)).imp ?_
 rintro a b ⟨ha, hb, hab⟩
 have h1 := (List.mem_filter.1 ha).2
 have h2 := (List.mem_filter.1 hb).2
 simp only [decide_eq_true_eq] at h1 h2
 unfold ltE at hab
 omega
theorem entry_at {S : List En} (h : S.Pairwise ltE) {x : En} {p : Nat} (hp : S[p]? = some x) : ∃ k, p = pre S x.2.1 + k ∧ k < cntE S x.2.1 ∧ ((S.drop (pre S x.2.1)).take (cntE S x.2.1))[k]? = some x := by
 have hpl := (List.getElem?_eq_some_iff.1 hp).1
 have h1 : pre S x.2.1 ≤ p := by
  rcases Nat.lt_or_ge p (pre S x.2.1) with hlt | hge
  ·exfalso
   have e : (S.take (pre S x.2.1))[p]? = some x := by rw [List.getElem?_take_of_lt hlt]; exact hp
   rw [col_take h] at e
   have := (List.mem_filter.1 (List.mem_of_getElem? e)).2
   simp at this
  ·exact hge
 have h2 : p < pre S x.2.1 + cntE S x.2.1 := by
  rcases Nat.lt_or_ge p (pre S (x.2.1 + 1)) with hlt | hge
  ·rw [pre_succ] at hlt; omega
  ·exfalso
   have e : (S.drop (pre S (x.2.1 + 1)))[p - pre S (x.2.1 + 1)]? = some x := by rw [List.getElem?_drop, Nat.add_sub_cancel' hge]; exact hp
   rw [col_drop h] at e
   have := (List.mem_filter.1 (List.mem_of_getElem? e)).2
   simp at this
 exact ⟨p - pre S x.2.1, by omega, by omega, by rw [List.getElem?_take_of_lt (by omega), List.getElem?_drop, Nat.add_sub_cancel' h1]; exact hp⟩
def Lb (xs : List Nat) (t i : Nat) : Prop := i ≤ xs.length ∧ (∀ k x, k < i → xs[k]? = some x → x < t) ∧ ∀ k x, i ≤ k → xs[k]? = some x → t ≤ x
theorem Lb.hit {xs : List Nat} {t i p : Nat} (h : Lb xs t i) (hs : xs.Pairwise (· < ·)) (hp : xs[p]? = some t) : i = p := by
 obtain ⟨h0, h1, h2⟩ := h
 have hpl := (List.getElem?_eq_some_iff.1 hp).1
 rcases Nat.lt_trichotomy i p with k | k | k
 ·exfalso
  have hx : xs[i]? = some xs[i] := List.getElem?_eq_getElem (by omega)
  have := h2 i _ (Nat.le_refl _) hx
  have h3 := List.pairwise_iff_getElem.1 hs i p (by omega) hpl k
  have h4 := (List.getElem?_eq_some_iff.1 hp).2
  omega
 ·exact k
 ·exfalso
  have := h1 p t k hp
  omega
theorem Lb.at {xs : List Nat} {t i : Nat} (h : Lb xs t i) (hs : xs.Pairwise (· < ·)) : (xs[i]? == some t) = xs.contains t := by
 by_cases hm : t ∈ xs
 ·obtain ⟨p, hp⟩ := List.mem_iff_getElem?.1 hm
  rw [h.hit hs hp, hp]
  simp [hm]
 ·have e : xs.contains t = false := by simpa using hm
  rw [e]
  simp only [beq_eq_false_iff_ne, ne_eq]
  intro h2
  exact hm (List.mem_of_getElem? h2)
end Go.Proofs.YtbiohhmpclnpgaaGreatDoor
