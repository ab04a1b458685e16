import Derived.Test.YtomggcdmhflboaaGreatDoorXMf1
import Derived.Test.YtomggcdmhflboaaGreatDoorXMb3
import Derived.Test.YtomggcdmhflboaaGreatDoorXMd2
import Derived.Test.YtomggcdmhflboaaGreatDoorXMc5
namespace Go.Proofs.YtomggcdmhflboaaGreatDoor
set_option linter.unusedSimpArgs false
set_option linter.unusedVariables false
theorem hdr_le {line : List UInt8} {h : Hd} (e : hdr line = some h) : h.field ≤ 2 ∧ h.sym ≤ 2 := by
 unfold hdr at e
 split at e
 ·split at e
  ·rename_i k
   have e := Option.some.inj e
   subst e
   exact ⟨flds_lt k.2.2.2.1, syms_lt k.2.2.2.2.1⟩
  ·cases e
 ·cases e
theorem sizes_ok {h : Hd} {w : List (List UInt8)} {m n z : Nat} (e : sizes h w = .ok (m, n, z)) : m ≤ 200 ∧ n ≤ 200 ∧ z ≤ 10000 ∧ (h.sym = 0 ∨ m = n) ∧ (h.arr = true → z = stored h.sym m n) := by
 unfold sizes at e
 by_cases k : w.length = (if h.arr = true then 2 else 3) ∧ w.all isNum = true ∧ (h.sym = 0 ∨ lead (w.getD 0 []) = lead (w.getD 1 []))
 ·rw [if_pos k] at e
  simp only [] at e
  generalize hc : (if h.arr = true then stored h.sym (num (w.getD 0 [])) (num (w.getD 1 [])) else num (w.getD 2 [])) = c at e
  by_cases g : num (w.getD 0 []) ≤ 200 ∧ num (w.getD 1 []) ≤ 200 ∧ c ≤ 10000 ∧ (h.sym = 0 ∨ 2 * c ≤ 10000)
  ·rw [if_pos g] at e
   have e := Except.ok.inj e
   have e1 := congrArg Prod.fst e
   have e2 := congrArg (fun x => x.2.1) e
   have e3 := congrArg (fun x => x.2.2) e
   simp only at e1 e2 e3
   have hmn : h.sym = 0 ∨ m = n := by
    rcases k.2.2 with g | g
    ·exact .inl g
    ·refine .inr ?_
     rw [← e1, ← e2, ← num_lead, g, num_lead]
   refine ⟨by omega, by omega, by omega, hmn, fun ha => ?_⟩
   rw [← e3, ← e1, ← e2, ← hc, if_pos ha]
  ·rw [if_neg g] at e; cases e
 ·rw [if_neg k] at e; cases e
theorem szP_ok {Ls : List (List UInt8)} {h : Hd} {k m n z : Nat} (e : szP Ls 1 h = .ok (k, m, n, z)) : k ≤ Ls.length + 1 ∧ m ≤ 200 ∧ n ≤ 200 ∧ z ≤ 10000 ∧ (h.sym = 0 ∨ m = n) ∧ (h.arr = true → z = stored h.sym m n) := by
 unfold szP at e
 split at e
 ·cases e
 ·rename_i k' ws r hsig
  split at e
  ·cases e
  ·rename_i q hq
   obtain ⟨m', n', z'⟩ := q
   have e := Except.ok.inj e
   cases e
   have h1 := sig_next hsig
   exact ⟨by omega, sizes_ok hq⟩
theorem mparse_eq {s line : List UInt8} {Ls : List (List UInt8)} {hd : Hd} (h1 : mlines s = line :: Ls) (h2 : hdr line = some hd) : mparse s = match szP (line :: Ls) 1 hd with
  | .error e => .error e
  | .ok (k, m, n, z) => match ents hd m n (Ls.length + 2) z [] (sig k ((line :: Ls).drop k)) with
   | .error e => .error e
   | .ok (L, []) => .ok (hd, m, n, L)
   | .ok (_, (k, _) :: _) => .error (k, 103) := by
 unfold mparse
 rw [h1]
 simp only [h2]
 unfold szP
 have e : (line :: Ls).drop 1 = Ls := rfl
 rw [e]
 cases hsig : sig 1 Ls with
 | nil => rfl
 | cons a r =>
  obtain ⟨i, w⟩ := a
  simp only
  cases hq : sizes hd w with
  | error x => rfl
  | ok q =>
   obtain ⟨m, n, c⟩ := q
   have hsig' : sig 1 ((line :: Ls).drop 1) = (i, w) :: r := hsig
   have h3 := (sig_next hsig').2.2.1
   simp only
   rw [h3]
   rfl
theorem ents_all {hd : Hd} {m n N z : Nat} {ls r : List (Nat × List (List UInt8))} {L : List En} (hs2 : hd.sym ≤ 2) (hmn : hd.sym = 0 ∨ m = n) (hz : hd.arr = true → z = stored hd.sym m n) (e : ents hd m n N z [] ls = .ok (L, r)) : okM m n (mirr hd.sym L) ∧ ∀ x ∈ L, finF x.2.2 = true ∧ x.2.2 < 18446744073709551616 := by
 have h := ents_ok (h := hd) (m := m) (n := n) (fun ha => by
  rw [List.length_nil, Nat.zero_add, hz ha, ← posP_stored _ _ _ hs2 hmn, posP_allp, List.length_map]
  exact Nat.le_refl _) ⟨.nil, by simp⟩ e
 exact ⟨mirr_ok h.1 hmn, fun x hx => ⟨(h.1.2 x hx).2.2.2.1, (h.1.2 x hx).2.2.2.2⟩⟩
end Go.Proofs.YtomggcdmhflboaaGreatDoor
namespace Go.Proofs.YtomggcdmhflboaaGreatDoor
set_option linter.unusedSimpArgs false
set_option linter.unusedVariables false
def hM : List UInt8 := [37, 37, 77, 97, 116, 114, 105, 120, 77, 97, 114, 107, 101, 116, 32, 109, 97, 116, 114, 105, 120, 32, 99, 111, 111, 114, 100, 105, 110, 97, 116, 101, 32, 112, 97, 116, 116, 101, 114, 110, 32, 115, 121, 109, 109, 101, 116, 114, 105, 99, 10]
def awM : List UInt8 := [37, 37, 77, 97, 116, 114, 105, 120, 77, 97, 114, 107, 101, 116, 32, 109, 97, 116, 114, 105, 120, 32, 99, 111, 111, 114, 100, 105, 110, 97, 116, 101, 32, 114, 101, 97, 108, 32, 115, 121, 109, 109, 101, 116, 114, 105, 99, 10, 50, 32, 50, 32, 50, 10, 49, 32, 49, 32, 50, 101, 48, 10, 50, 32, 49, 32, 45, 49, 101, 48, 10]
def dgM (n : Nat) : List UInt8 := [UInt8.ofNat (48 + n)]
def headM (n : Nat) : List UInt8 := hM ++ dgM n ++ [32] ++ dgM n ++ [32]
def bodyM : Nat → List UInt8
 | 0 => []
 | i + 1 => bodyM i ++ dgM (i + 1) ++ [32] ++ dgM (i + 1) ++ [10]
def tM (n c : Nat) : List UInt8 := headM n ++ dgM c ++ [10] ++ bodyM n
def chk1 (b : List UInt8) (k x : Nat) : Bool := match mparse b with
 | .error (a, c) => a == k && c == x
 | .ok _ => false
def chk5 (b : List UInt8) (n : Nat) : Bool := match mparse b with
 | .error _ => false
 | .ok (h, m, n', L) => m == n && n' == n && (entP (mirr h.sym L) m n').length == n && decide ((mirr h.sym L).length ≤ 20)
def chkA (b : List UInt8) : Bool := match mparse b with
 | .error _ => false
 | .ok (h, m, n, L) => h.arr == false && h.field == 0 && h.sym == 1 && m == 2 && n == 2 && L == [(0, 0, 4611686018427387904), (1, 0, 13830554455654793216)]
theorem chk1_of {b : List UInt8} {k x : Nat} (h : chk1 b k x = true) : mparse b = .error (k, x) := by
 unfold chk1 at h
 split at h
 ·rename_i a c e
  simp only [Bool.and_eq_true, beq_iff_eq] at h
  rw [e, h.1, h.2]
 ·cases h
theorem chk5_of {b : List UInt8} {n : Nat} (h : chk5 b n = true) : ∃ hd L, mparse b = .ok (hd, n, n, L) ∧ (entP (mirr hd.sym L) n n).length = n ∧ (mirr hd.sym L).length ≤ 20 := by
 unfold chk5 at h
 split at h
 ·cases h
 ·rename_i hd m n' L e
  simp only [Bool.and_eq_true, beq_iff_eq, decide_eq_true_eq] at h
  obtain ⟨⟨⟨rfl, rfl⟩, h3⟩, h4⟩ := h
  exact ⟨hd, L, e, h3, h4⟩
theorem chkA_of {b : List UInt8} (h : chkA b = true) : mparse b = .ok (⟨false, 0, 1⟩, 2, 2, [(0, 0, 4611686018427387904), (1, 0, 13830554455654793216)]) := by
 unfold chkA at h
 split at h
 ·cases h
 ·rename_i hd m n L e
  obtain ⟨a, f, s⟩ := hd
  simp only [Bool.and_eq_true, beq_iff_eq] at h
  obtain ⟨⟨⟨⟨⟨rfl, rfl⟩, rfl⟩, rfl⟩, rfl⟩, rfl⟩ := h
  exact e
theorem chk_all : (List.range 4).all (fun k => chk1 (tM (k + 2) (k + 3)) (k + 5) 103 && chk1 (tM (k + 2) (k + 1)) (k + 4) 103 && chk1 (tM (k + 2) (k + 3) ++ [49, 32, 49, 10]) (k + 5) 102 && chk1 (tM (k + 2) (k + 3) ++ [49, 32, 50, 10]) (k + 5) 102 && chk5 (tM (k + 2) (k + 2)) (k + 2)) = true := by decide +kernel
theorem chk_aw : chkA awM = true := by decide +kernel
theorem texts_say {n : Nat} (h : 2 ≤ n ∧ n ≤ 5) : mparse (tM n (n + 1)) = .error (n + 3, 103) ∧ mparse (tM n (n - 1)) = .error (n + 2, 103) ∧ mparse (tM n (n + 1) ++ [49, 32, 49, 10]) = .error (n + 3, 102) ∧ mparse (tM n (n + 1) ++ [49, 32, 50, 10]) = .error (n + 3, 102) ∧ ∃ hd L, mparse (tM n n) = .ok (hd, n, n, L) ∧ (entP (mirr hd.sym L) n n).length = n ∧ (mirr hd.sym L).length ≤ 20 := by
 obtain ⟨k, rfl⟩ : ∃ k, n = k + 2 := ⟨n - 2, by omega⟩
 have hk : k < 4 := by omega
 have := List.all_eq_true.1 chk_all k (List.mem_range.2 hk)
 simp only [Bool.and_eq_true] at this
 obtain ⟨⟨⟨⟨h1, h2⟩, h3⟩, h4⟩, h5⟩ := this
 exact ⟨chk1_of h1, chk1_of h2, chk1_of h3, chk1_of h4, chk5_of h5⟩
theorem mparse_nil : mparse [] = .error (1, 100) := chk1_of (by decide +kernel)
def awS : List En := [(0, 0, 4611686018427387904), (1, 0, 13830554455654793216), (0, 1, 13830554455654793216)]
theorem mirr_aw : mirr 1 [(0, 0, 4611686018427387904), (1, 0, 13830554455654793216)] = awS := by decide
theorem entP_aw : entP awS 2 2 = awS := by decide
theorem awS_sorted : awS.Pairwise ltE := by rw [← entP_aw]; exact entP_sorted _ _ _
theorem awS_in : ∀ x ∈ awS, x.1 < 2 ∧ x.2.1 < 2 := by decide
theorem awS_cnt : ∀ j, j < 2 → 0 < cntE awS j := by
 intro j hj
 rcases (show j = 0 ∨ j = 1 by omega) with rfl | rfl
 ·decide
 ·decide
theorem awS_fin : ∀ x ∈ awS.map (·.2.2), x < 18446744073709551616 ∧ finF x = true := by decide
theorem bodyM_len : ∀ n, (bodyM n).length = 4 * n
 | 0 => rfl
 | n + 1 => by rw [bodyM, List.length_append, List.length_append, List.length_append, List.length_append, bodyM_len n]; simp [dgM]; omega
theorem headM_len (n : Nat) : (headM n).length = 55 := by unfold headM; simp [dgM, hM]
theorem tM_len (n c : Nat) : (tM n c).length = 57 + 4 * n := by unfold tM; rw [List.length_append, bodyM_len, List.length_append, List.length_append, headM_len]; simp [dgM]
end Go.Proofs.YtomggcdmhflboaaGreatDoor
