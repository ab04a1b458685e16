import Derived.Test.YtomggcdmhflboaaGreatDoorXMd0
import Derived.Test.YtomggcdmhflboaaGreatDoorXMc8
import Derived.Test.YtomggcdmhflboaaGreatDoorXDc13
import Derived.Test.YtomggcdmhflboaaGreatDoorXEa2
namespace Go.Proofs.YtomggcdmhflboaaGreatDoor
set_option linter.unusedSimpArgs false
set_option linter.unusedVariables false
theorem finF_neg {f : Nat} (h : f < 18446744073709551616) : finF (negF f) = finF f := by
 unfold finF negF
 split
 ·rename_i k
  have e : (f + 9223372036854775808) / 4503599627370496 % 2048 = f / 4503599627370496 % 2048 := by omega
  rw [e]
 ·rename_i k
  have e : (f - 9223372036854775808) / 4503599627370496 % 2048 = f / 4503599627370496 % 2048 := by omega
  rw [e]
theorem negF_lt {f : Nat} (h : f < 18446744073709551616) : negF f < 18446744073709551616 := by unfold negF; split <;> omega
theorem kind_fin {f : Nat} (h : finF f = true) : ¬ kindF f = 3 := by
 unfold finF at h
 unfold kindF
 simp only [bne_iff_ne, ne_eq] at h
 rw [if_neg h]
 split <;> decide
def okE (sym m n : Nat) (x : En) : Prop := x.1 < m ∧ x.2.1 < n ∧ may sym x.1 x.2.1 = true ∧ finF x.2.2 = true ∧ x.2.2 < 18446744073709551616
theorem may_cases {sym i j : Nat} (h : may sym i j = true) : sym = 0 ∨ j < i ∨ (sym = 1 ∧ i = j) := by
 unfold may at h
 simp only [Bool.or_eq_true, beq_iff_eq, decide_eq_true_eq, Bool.and_eq_true] at h
 rcases h with (h | h) | h
 ·exact .inl h
 ·exact .inr (.inl h)
 ·exact .inr (.inr h)
theorem may_one {sym i j : Nat} (h : may sym i j = true) (hi : 1 ≤ i) (hj : 1 ≤ j) : may sym (i - 1) (j - 1) = true := by
 unfold may
 rcases may_cases h with k | k | ⟨k, k2⟩
 ·simp [k]
 ·have : j - 1 < i - 1 := by omega
  simp [this]
 ·subst k2; simp [k]
theorem fval_ok {field : Nat} {s : List UInt8} {f : Nat} (h : fval field s = some f) : finF f = true ∧ f < 18446744073709551616 := by
 unfold fval at h
 split at h
 ·split at h
  ·rename_i k; cases h; exact ⟨k.2, rndZ_lt _⟩
  ·cases h
 ·split at h
  ·rename_i k; cases h; exact ⟨k.2, dpz_lt _ _ _⟩
  ·cases h
theorem allp_ok {sym m n : Nat} {p : Nat × Nat} (h : p ∈ allp sym m n) : p.1 < m ∧ p.2 < n ∧ may sym p.1 p.2 = true := by
 unfold allp at h
 rw [List.mem_flatMap] at h
 obtain ⟨j, hj, h⟩ := h
 obtain ⟨i, hi, rfl⟩ := List.mem_map.1 h
 obtain ⟨h1, h2⟩ := List.mem_filter.1 hi
 exact ⟨List.mem_range.1 h1, List.mem_range.1 hj, h2⟩
theorem one_ok {h : Hd} {m n k : Nat} {w : List (List UInt8)} {x : En} (hk : h.arr = true → k < (allp h.sym m n).length) (he : one h m n k w = some x) : okE h.sym m n x := by
 unfold one at he
 split at he
 ·rename_i ha
  split at he
  ·obtain ⟨f, hf, rfl⟩ := Option.map_eq_some_iff.1 he
   have h1 : (allp h.sym m n).getD k (0, 0) ∈ allp h.sym m n := by
    rw [List.getD_eq_getElem?_getD, List.getElem?_eq_getElem (hk ha)]
    exact List.getElem_mem _
   have h2 := allp_ok h1
   have h3 := fval_ok hf
   exact ⟨h2.1, h2.2.1, h2.2.2, h3.1, h3.2⟩
  ·cases he
 ·split at he
  ·cases he
  ·rename_i p hp
   have hb : p.1 < m ∧ p.2 < n ∧ may h.sym p.1 p.2 = true := by
    unfold posOf at hp
    simp only [] at hp
    obtain ⟨g, hp⟩ := Option.ite_none_right_eq_some.1 hp
    ·have hp := Option.some.inj hp
     subst hp
     exact ⟨by have := g.2.2.2.1; have := g.2.2.2.2.1; omega, by have := g.2.2.2.2.2.1; have := g.2.2.2.2.2.2.1; omega, may_one g.2.2.2.2.2.2.2 g.2.2.2.1 g.2.2.2.2.2.1⟩
   split at he
   ·have he := Option.some.inj he
    subst he
    exact ⟨hb.1, hb.2.1, hb.2.2, (by show finF 4607182418800017408 = true; decide), (by show 4607182418800017408 < 18446744073709551616; decide)⟩
   ·obtain ⟨f, hf, rfl⟩ := Option.map_eq_some_iff.1 he
    have h3 := fval_ok hf
    exact ⟨hb.1, hb.2.1, hb.2.2, h3.1, h3.2⟩
theorem seen_ap {L : List En} {x : En} (h : seen L x = false) : ∀ y ∈ L, apE y x := by
 intro y hy k
 unfold seen at h
 rw [List.any_eq_false] at h
 exact h y hy (by simp [k.1, k.2])
theorem ents_ok {h : Hd} {m n N : Nat} : ∀ {k : Nat} {L : List En} {ls : List (Nat × List (List UInt8))} {L' : List En} {r : List (Nat × List (List UInt8))}, (h.arr = true → L.length + k ≤ (allp h.sym m n).length) → (L.Pairwise apE ∧ ∀ x ∈ L, okE h.sym m n x) → ents h m n N k L ls = .ok (L', r) → (L'.Pairwise apE ∧ ∀ x ∈ L', okE h.sym m n x) ∧ L'.length = L.length + k
 | 0, L, ls, L', r, _, hL, he => by
  unfold ents at he
  cases he
  exact ⟨hL, rfl⟩
 | k + 1, L, [], L', r, _, hL, he => by unfold ents at he; cases he
 | k + 1, L, (i, w) :: ls, L', r, hk, hL, he => by
  unfold ents at he
  split at he
  ·cases he
  ·rename_i x hx
   split at he
   ·cases he
   ·rename_i hs
    have hs' : seen L x = false := by simpa using hs
    have := ents_ok (k := k) (L := L ++ [x]) (fun ha => by have := hk ha; rw [List.length_append]; simp only [List.length_cons, List.length_nil]; omega) ⟨by
     rw [List.pairwise_append]
     exact ⟨hL.1, List.pairwise_singleton _ _, fun a ha b hb => by rw [List.mem_singleton] at hb; subst hb; exact seen_ap hs' a ha⟩, fun y hy => by
     rcases List.mem_append.1 hy with g | g
     ·exact hL.2 y g
     ·rw [List.mem_singleton] at g; subst g; exact one_ok (fun ha => by have := hk ha; omega) hx⟩ he
    refine ⟨this.1, ?_⟩
    rw [this.2, List.length_append]
    simp only [List.length_cons, List.length_nil]
    omega
def okM (m n : Nat) (L : List En) : Prop := L.Pairwise apE ∧ ∀ x ∈ L, x.1 < m ∧ x.2.1 < n ∧ finF x.2.2 = true ∧ x.2.2 < 18446744073709551616
theorem mirr_ok {sym m n : Nat} {L : List En} (hL : L.Pairwise apE ∧ ∀ x ∈ L, okE sym m n x) (hs : sym = 0 ∨ m = n) : okM m n (mirr sym L) := by
 obtain ⟨h1, h2⟩ := hL
 have hf : ∀ x ∈ L.filter (fun x => !(sym == 0 || x.1 == x.2.1)), x ∈ L ∧ ¬ sym = 0 ∧ x.2.1 < x.1 := by
  intro x hx
  obtain ⟨k1, k2⟩ := List.mem_filter.1 hx
  simp only [Bool.not_eq_true', Bool.or_eq_false_iff, beq_eq_false_iff_ne, ne_eq] at k2
  rcases may_cases (h2 x k1).2.2.1 with g | g | ⟨_, g⟩
  ·exact absurd g k2.1
  ·exact ⟨k1, k2.1, g⟩
  ·exact absurd g k2.2
 unfold mirr
 refine ⟨?_, ?_⟩
 ·rw [List.pairwise_append]
  refine ⟨h1, ?_, ?_⟩
  ·rw [List.pairwise_map]
   refine (h1.filter _).imp ?_
   intro a b hab
   unfold apE at *
   simp only
   omega
  ·intro a ha b hb
   obtain ⟨y, hy, rfl⟩ := List.mem_map.1 hb
   obtain ⟨g1, g2, g3⟩ := hf y hy
   unfold apE
   simp only
   rcases may_cases (h2 a ha).2.2.1 with g | g | ⟨_, g⟩
   ·exact absurd g g2
   ·omega
   ·omega
 ·intro x hx
  rcases List.mem_append.1 hx with g | g
  ·have := h2 x g; exact ⟨this.1, this.2.1, this.2.2.2.1, this.2.2.2.2⟩
  ·obtain ⟨y, hy, rfl⟩ := List.mem_map.1 g
   obtain ⟨g1, g2, g3⟩ := hf y hy
   have hmn : m = n := hs.resolve_left g2
   have := h2 y g1
   unfold okE at this
   simp only
   refine ⟨by omega, by omega, ?_, ?_⟩
   ·split
    ·rw [finF_neg this.2.2.2.2]; exact this.2.2.2.1
    ·exact this.2.2.2.1
   ·split
    ·exact negF_lt this.2.2.2.2
    ·exact this.2.2.2.2
theorem okM.perm {m n : Nat} {L S : List En} (h : okM m n L) (p : L.Perm S) : okM m n S := ⟨perm_ap p h.1, fun x hx => h.2 x (p.mem_iff.2 hx)⟩
theorem okM.entP {m n : Nat} {L : List En} (h : okM m n L) : okM m n (entP L m n) := by
 refine ⟨(entP_sorted L m n).imp fun k => k.ap, fun x hx => h.2 x ?_⟩
 exact (mem_entP h.1 (fun y hy => ⟨(h.2 y hy).1, (h.2 y hy).2.1⟩) x).1 hx
end Go.Proofs.YtomggcdmhflboaaGreatDoor
namespace Go.Proofs.YtomggcdmhflboaaGreatDoor
set_option linter.unusedSimpArgs false
set_option linter.unusedVariables false
def nzF : Nat := 9223372036854775808
def cleanF (b : Nat) : Nat := if b = nzF then 0 else b
theorem cleanF_lt {b : Nat} (h : b < 18446744073709551616) : cleanF b < 18446744073709551616 := by unfold cleanF; split <;> omega
theorem cleanF_fin {b : Nat} (h : finF b = true) : finF (cleanF b) = true := by
 unfold cleanF; split
 ·decide
 ·exact h
theorem Nm.zero {x e m e' : Int} (h : Nm x e m e') (hm : m = 0) : x = 0 := by
 rcases h with ⟨h, _⟩ | ⟨h, t, h2, _⟩
 ·exact h
 ·rw [hm, Int.zero_mul] at h2; exact h2
theorem Nm.zero' {x e m e' : Int} (h : Nm x e m e') (hx : x = 0) : m = 0 := by
 rcases h with ⟨_, h, _⟩ | ⟨h, _⟩
 ·exact h
 ·exact absurd hx h
theorem round_clean {b : Nat} (hb : b < 18446744073709551616) (hf : finF b = true) {x2 e2 m e' : Int} (h : Nm (sg (decide (9223372036854775808 ≤ b)) (manF (b % 9223372036854775808))) (expoF (b % 9223372036854775808)) m e') (g : Nm x2 e2 m e') :
  cleanF b = if x2 = 0 then 0 else rndF (decide (x2 < 0)) 0 x2.natAbs 1 e2 := by
 by_cases h0 : b % 9223372036854775808 = 0
 ·have e0 : manF (b % 9223372036854775808) = 0 := by rw [h0]; rfl
  have hm : m = 0 := h.zero' (by rw [e0, sg_zero])
  rw [if_pos (g.zero hm)]
  unfold cleanF nzF
  split
  ·rfl
  ·omega
 ·have hfin : b % 9223372036854775808 < 9218868437227405312 := by
   unfold finF at hf
   simp only [bne_iff_ne, ne_eq] at hf
   omega
  have hp : 0 < manF (b % 9223372036854775808) := manF_pos (by omega)
  have hx : sg (decide (9223372036854775808 ≤ b)) (manF (b % 9223372036854775808)) ≠ 0 := by
   intro k
   have := sg_eq_zero.1 k
   omega
  have hm : m ≠ 0 := h.ne hx
  have hx2 : x2 ≠ 0 := fun k => hm (g.zero' k)
  have hd : decide (x2 < 0) = decide (9223372036854775808 ≤ b) := by
   rw [← g.neg, h.neg]
   unfold sg
   by_cases k : 9223372036854775808 ≤ b
   ·simp only [k, decide_true, if_true]; simp; omega
   ·simp only [k, decide_false, Bool.false_eq_true, if_false]; simp
  rw [if_neg hx2, hd]
  have r1 := rnd_nm (decide (9223372036854775808 ≤ b)) 0 g (Nm.refl (x := 1) (e := 0) (by decide)) hx2 (by decide)
  have r2 := rnd_nm (decide (9223372036854775808 ≤ b)) 0 h (Nm.refl (x := 1) (e := 0) (by decide)) hx (by decide)
  rw [Int.sub_zero, Int.sub_zero] at r1 r2
  rw [sg_abs] at r2
  have r3 := rnd_back (decide (9223372036854775808 ≤ b)) 0 (b := b % 9223372036854775808) (by omega) hfin
  have r4 : rndF (decide (9223372036854775808 ≤ b)) 0 x2.natAbs 1 e2 = sgnF (decide (9223372036854775808 ≤ b)) (b % 9223372036854775808) := r1.symm.trans (r2.trans r3)
  rw [r4]
  unfold cleanF nzF sgnF
  by_cases k : 9223372036854775808 ≤ b
  ·rw [if_neg (by omega), if_pos (by simpa using k)]; omega
  ·rw [if_neg (by omega), if_neg (by simpa using k)]; omega
def clE (x : En) : En := (x.1, x.2.1, cleanF x.2.2)
theorem clE_sorted {S : List En} (h : S.Pairwise ltE) : (S.map clE).Pairwise ltE := by
 rw [List.pairwise_map]
 exact h.imp fun k => by unfold ltE clE at *; exact k
theorem pre_clE (S : List En) (j : Nat) : pre (S.map clE) j = pre S j := by
 unfold pre
 rw [List.filter_map, List.length_map]
 rfl
theorem rows_clE (S : List En) : (S.map clE).map (·.1) = S.map (·.1) := by rw [List.map_map]; rfl
def valA (L : List En) (k : Nat) (y : En) : Nat := if y.2.2 = nzF ∧ y ∈ L.take k then nzF else cleanF y.2.2
theorem valA_zero (L S : List En) : S.map (valA L 0) = (S.map clE).map (·.2.2) := by
 rw [List.map_map]
 apply List.map_congr_left
 intro y _
 unfold valA
 rw [if_neg (by simp)]
 rfl
theorem valA_skip {L S : List En} {k : Nat} {x : En} (hx : L[k]? = some x) (hn : x.2.2 ≠ nzF) : S.map (valA L (k + 1)) = S.map (valA L k) := by
 apply List.map_congr_left
 intro y _
 unfold valA
 rw [List.take_add_one, hx]
 by_cases h1 : y.2.2 = nzF
 ·have : y ≠ x := fun e => hn (e ▸ h1)
  simp [h1, this]
 ·simp [h1]
theorem valA_set {L S : List En} (hS : S.Pairwise ltE) {k q : Nat} {x : En} (hx : L[k]? = some x) (hn : x.2.2 = nzF) (hq : S[q]? = some x) : (S.map (valA L k)).set q nzF = S.map (valA L (k + 1)) := by
 have hql := (List.getElem?_eq_some_iff.1 hq).1
 apply List.ext_getElem?
 intro i
 rw [List.getElem?_set, List.getElem?_map, List.getElem?_map]
 by_cases h1 : q = i
 ·subst h1
  rw [if_pos rfl, if_pos (by simpa using hql), hq]
  simp only [Option.map_some]
  unfold valA
  rw [if_pos ⟨hn, by rw [List.take_add_one, hx]; simp⟩]
 ·rw [if_neg h1]
  cases hy : S[i]? with
  | none => rfl
  | some y =>
   simp only [Option.map_some]
   have hne : y ≠ x := by
    intro e
    subst e
    have hil := (List.getElem?_eq_some_iff.1 hy).1
    have e1 := (List.getElem?_eq_some_iff.1 hy).2
    have e2 := (List.getElem?_eq_some_iff.1 hq).2
    rcases Nat.lt_or_gt_of_ne h1 with h | h
    ·have := List.pairwise_iff_getElem.1 hS q i hql hil h
     rw [e1, e2] at this
     exact ltE.irrefl _ this
    ·have := List.pairwise_iff_getElem.1 hS i q hil hql h
     rw [e1, e2] at this
     exact ltE.irrefl _ this
   congr 1
   unfold valA
   rw [List.take_add_one, hx]
   simp [hne]
theorem valA_end {L S : List En} (h : ∀ x ∈ S, x ∈ L) : S.map (valA L L.length) = S.map (·.2.2) := by
 apply List.map_congr_left
 intro y hy
 unfold valA
 rw [List.take_length]
 by_cases h1 : y.2.2 = nzF
 ·rw [if_pos ⟨h1, h y hy⟩, h1]
 ·rw [if_neg (fun k => h1 k.1)]
  unfold cleanF
  rw [if_neg h1]
end Go.Proofs.YtomggcdmhflboaaGreatDoor
