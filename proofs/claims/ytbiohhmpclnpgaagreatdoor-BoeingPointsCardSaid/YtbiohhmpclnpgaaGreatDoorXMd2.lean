import Derived.Test.YtbiohhmpclnpgaaGreatDoorXMd0
import Derived.Test.YtbiohhmpclnpgaaGreatDoorXMc8
import Derived.Test.YtbiohhmpclnpgaaGreatDoorXDc13
import Derived.Test.YtbiohhmpclnpgaaGreatDoorXEa2
namespace Go.Proofs.YtbiohhmpclnpgaaGreatDoor
set_option linter.unusedSimpArgs false
set_option linter.unusedVariables false
theorem kind_fin {f : Nat} (h : finF f = true) : ¬ kindF f = 3 := by
 unfold finF at h
 unfold kindF
 simp only [bne_iff_ne, ne_eq] at h
 rw [if_neg h]
 split <;> decide
def okM (m n : Nat) (L : List En) : Prop := L.Pairwise apE ∧ ∀ x ∈ L, x.1 < m ∧ x.2.1 < n ∧ finF x.2.2 = true ∧ x.2.2 < 18446744073709551616
theorem okM.perm {m n : Nat} {L S : List En} (h : okM m n L) (p : L.Perm S) : okM m n S := ⟨perm_ap p h.1, fun x hx => h.2 x (p.mem_iff.2 hx)⟩
theorem okM.entP {m n : Nat} {L : List En} (h : okM m n L) : okM m n (entP L m n) := by
 refine ⟨(entP_sorted L m n).imp fun k => k.ap, fun x hx => h.2 x ?_⟩
 exact (mem_entP h.1 (fun y hy => ⟨(h.2 y hy).1, (h.2 y hy).2.1⟩) x).1 hx
end Go.Proofs.YtbiohhmpclnpgaaGreatDoor
namespace Go.Proofs.YtbiohhmpclnpgaaGreatDoor
set_option linter.unusedSimpArgs false
set_option linter.unusedVariables false
def nzF : Nat := 9223372036854775808
def cleanF (b : Nat) : Nat := if b = nzF then 0 else b
theorem cleanF_lt {b : Nat} (h : b < 18446744073709551616) : cleanF b < 18446744073709551616 := by unfold cleanF; split <;> omega
theorem cleanF_fin {b : Nat} (h : finF b = true) : finF (cleanF b) = true := by
 unfold cleanF; split
 ·decide
 ·exact h
theorem Nm.zero {x e m e' : Int} (h : Nm x e m e') (hm : m = 0) : x = 0 := by
 rcases h with ⟨h, _⟩ | ⟨h, t, h2, _⟩
 ·exact h
 ·rw [hm, Int.zero_mul] at h2; exact h2
theorem Nm.zero' {x e m e' : Int} (h : Nm x e m e') (hx : x = 0) : m = 0 := by
 rcases h with ⟨_, h, _⟩ | ⟨h, _⟩
 ·exact h
 ·exact absurd hx h
theorem round_clean {b : Nat} (hb : b < 18446744073709551616) (hf : finF b = true) {x2 e2 m e' : Int} (h : Nm (sg (decide (9223372036854775808 ≤ b)) (manF (b % 9223372036854775808))) (expoF (b % 9223372036854775808)) m e') (g : Nm x2 e2 m e') :
  cleanF b = if x2 = 0 then 0 else rndF (decide (x2 < 0)) 0 x2.natAbs 1 e2 := by
 by_cases h0 : b % 9223372036854775808 = 0
 ·have e0 : manF (b % 9223372036854775808) = 0 := by rw [h0]; rfl
  have hm : m = 0 := h.zero' (by rw [e0, sg_zero])
  rw [if_pos (g.zero hm)]
  unfold cleanF nzF
  split
  ·rfl
  ·omega
 ·have hfin : b % 9223372036854775808 < 9218868437227405312 := by
   unfold finF at hf
   simp only [bne_iff_ne, ne_eq] at hf
   omega
  have hp : 0 < manF (b % 9223372036854775808) := manF_pos (by omega)
  have hx : sg (decide (9223372036854775808 ≤ b)) (manF (b % 9223372036854775808)) ≠ 0 := by
   intro k
   have := sg_eq_zero.1 k
   omega
  have hm : m ≠ 0 := h.ne hx
  have hx2 : x2 ≠ 0 := fun k => hm (g.zero' k)
  have hd : decide (x2 < 0) = decide (9223372036854775808 ≤ b) := by
   rw [← g.neg, h.neg]
   unfold sg
   by_cases k : 9223372036854775808 ≤ b
   ·simp only [k, decide_true, if_true]; simp; omega
   ·simp only [k, decide_false, Bool.false_eq_true, if_false]; simp
  rw [if_neg hx2, hd]
  have r1 := rnd_nm (decide (9223372036854775808 ≤ b)) 0 g (Nm.refl (x := 1) (e := 0) (by decide)) hx2 (by decide)
  have r2 := rnd_nm (decide (9223372036854775808 ≤ b)) 0 h (Nm.refl (x := 1) (e := 0) (by decide)) hx (by decide)
  rw [Int.sub_zero, Int.sub_zero] at r1 r2
  rw [sg_abs] at r2
  have r3 := rnd_back (decide (9223372036854775808 ≤ b)) 0 (b := b % 9223372036854775808) (by omega) hfin
  have r4 : rndF (decide (9223372036854775808 ≤ b)) 0 x2.natAbs 1 e2 = sgnF (decide (9223372036854775808 ≤ b)) (b % 9223372036854775808) := r1.symm.trans (r2.trans r3)
  rw [r4]
  unfold cleanF nzF sgnF
  by_cases k : 9223372036854775808 ≤ b
  ·rw [if_neg (by omega), if_pos (by simpa using k)]; omega
  ·rw [if_neg (by omega), if_neg (by simpa using k)]; omega
def clE (x : En) : En := (x.1, x.2.1, cleanF x.2.2)
theorem clE_sorted {S : List En} (h : S.Pairwise ltE) : (S.map clE).Pairwise ltE := by
 rw [List.pairwise_map]
 exact h.imp fun k => by unfold ltE clE at *; exact k
theorem pre_clE (S : List En) (j : Nat) : pre (S.map clE) j = pre S j := by
 unfold pre
 rw [List.filter_map, List.length_map]
 rfl
theorem rows_clE (S : List En) : (S.map clE).map (·.1) = S.map (·.1) := by rw [List.map_map]; rfl
def valA (L : List En) (k : Nat) (y : En) : Nat := if y.2.2 = nzF ∧ y ∈ L.take k then nzF else cleanF y.2.2
theorem valA_zero (L S : List En) : S.map (valA L 0) = (S.map clE).map (·.2.2) := by
 rw [List.map_map]
 apply List.map_congr_left
 intro y _
 unfold valA
 rw [if_neg (by simp)]
 rfl
theorem valA_skip {L S : List En} {k : Nat} {x : En} (hx : L[k]? = some x) (hn : x.2.2 ≠ nzF) : S.map (valA L (k + 1)) = S.map (valA L k) := by
 apply List.map_congr_left
 intro y _
 unfold valA
 rw [List.take_add_one, hx]
 by_cases h1 : y.2.2 = nzF
 ·have : y ≠ x := fun e => hn (e ▸ h1)
  simp [h1, this]
 ·simp [h1]
theorem valA_set {L S : List En} (hS : S.Pairwise ltE) {k q : Nat} {x : En} (hx : L[k]? = some x) (hn : x.2.2 = nzF) (hq : S[q]? = some x) : (S.map (valA L k)).set q nzF = S.map (valA L (k + 1)) := by
 have hql := (List.getElem?_eq_some_iff.1 hq).1
 apply List.ext_getElem?
 intro i
 rw [List.getElem?_set, List.getElem?_map, List.getElem?_map]
 by_cases h1 : q = i
 ·subst h1
  rw [if_pos rfl, if_pos (by simpa using hql), hq]
  simp only [Option.map_some]
  unfold valA
  rw [if_pos ⟨hn, by rw [List.take_add_one, hx]; simp⟩]
 ·rw [if_neg h1]
  cases hy : S[i]? with
  | none => rfl
  | some y =>
   simp only [Option.map_some]
   have hne : y ≠ x := by
    intro e
    subst e
    have hil := (List.getElem?_eq_some_iff.1 hy).1
    have e1 := (List.getElem?_eq_some_iff.1 hy).2
    have e2 := (List.getElem?_eq_some_iff.1 hq).2
    rcases Nat.lt_or_gt_of_ne h1 with h | h
    ·have := List.pairwise_iff_getElem.1 hS q i hql hil h
     rw [e1, e2] at this
     exact ltE.irrefl _ this
    ·have := List.pairwise_iff_getElem.1 hS i q hil hql h
     rw [e1, e2] at this
     exact ltE.irrefl _ this
   congr 1
   unfold valA
   rw [List.take_add_one, hx]
   simp [hne]
theorem valA_end {L S : List En} (h : ∀ x ∈ S, x ∈ L) : S.map (valA L L.length) = S.map (·.2.2) := by
 apply List.map_congr_left
 intro y hy
 unfold valA
 rw [List.take_length]
 by_cases h1 : y.2.2 = nzF
 ·rw [if_pos ⟨h1, h y hy⟩, h1]
 ·rw [if_neg (fun k => h1 k.1)]
  unfold cleanF
  rw [if_neg h1]
end Go.Proofs.YtbiohhmpclnpgaaGreatDoor
