import Derived.Test.YtbiohhmpclnpgaaGreatDoorXMb0
import Derived.Test.YtbiohhmpclnpgaaGreatDoorXDc13
import Derived.Lib.TrimByte
import Derived.Lib.IndexAny
import Derived.Lib.IndexMore
namespace Go.Proofs.YtbiohhmpclnpgaaGreatDoor
set_option linter.unusedSimpArgs false
set_option linter.unusedVariables false
def up1 (b : UInt8) : UInt8 := if 97 ≤ b.toNat ∧ b.toNat ≤ 122 then b - 32 else b
def ups (s : List UInt8) : List UInt8 := s.map up1
def part (a b : Nat) (s : List UInt8) : List UInt8 := (s.take b).drop a
def blank (s : List UInt8) : List UInt8 := Lib.trimB s 32
structure Lay where
 count : Nat
 width : Nat
 point : Nat
 scale : Nat
deriving DecidableEq
def cntP (s : List UInt8) : Nat × Bool := if s = [] then (0, true) else ((dgts s).1, (dgts s).2 && decide (s.length ≤ 9))
def cntsP (l : List UInt8) : List (Nat × Nat) → Option (List Nat)
 | [] => some []
 | (a, b) :: r => if (cntP (blank (part a b l))).2 = true then (cntsP l r).map ((cntP (blank (part a b l))).1 :: ·) else none
def innerP (s : List UInt8) : Option (List UInt8) :=
 if Lib.hasPrefix (ups s) [40] = true ∧ Lib.hasSuffix (Lib.trimPrefix (ups s) [40]) [41] = true then some (Lib.trimSuffix (Lib.trimPrefix (ups s) [40]) [41]) else none
def shortP (s : List UInt8) : Option Nat := if (dgts s).2 = true ∧ s.length ≤ 3 then some (dgts s).1 else none
def countedP (s ls : List UInt8) : Option (Nat × List UInt8) :=
 if Lib.indexAny s ls < 0 then none
 else if Lib.indexAny s ls = 0 then some (1, s.drop 1)
 else (shortP (s.take (Lib.indexAny s ls).toNat)).map fun n => (n, s.drop ((Lib.indexAny s ls).toNat + 1))
def soundP (f : Lay) : Bool := decide (1 ≤ f.count ∧ 1 ≤ f.width ∧ f.count * f.width ≤ 512)
def wholeP (s : List UInt8) : Option Lay :=
 match innerP s with
 | none => none
 | some r => match countedP r [73] with
  | none => none
  | some (c, t) => match shortP t with
   | none => none
   | some w => if soundP ⟨c, w, 0, 0⟩ = true then some ⟨c, w, 0, 0⟩ else none
def decP1 (sc : Nat) (s : List UInt8) : Option Lay :=
 match countedP s [69, 68, 70] with
 | none => none
 | some (c, t) =>
  if (Lib.cut t [46]).2.2 = true then
   match shortP (Lib.cut t [46]).1, shortP (Lib.cut t [46]).2.1 with
   | some w, some p => if soundP ⟨c, w, p, sc⟩ = true then some ⟨c, w, p, sc⟩ else none
   | _, _ => none
  else none
def decP (s : List UInt8) : Option Lay :=
 match innerP s with
 | none => none
 | some r =>
  if 1 < r.length ∧ r[1]? = some 80 then
   (if (dgts (r.take 1)).2 = true then decP1 (dgts (r.take 1)).1 (Lib.trimPrefix (r.drop 2) [44]) else none)
  else decP1 0 r
def sE : List UInt8 := [101, 69, 100, 68]
def vDig (s : List UInt8) : List UInt8 := if Lib.indexAny s sE < 0 then s else s.take (Lib.indexAny s sE).toNat
def vExp (f : Lay) (s : List UInt8) : Int := if Lib.indexAny s sE < 0 then -(f.scale : Int) else (Lib.atoi (s.drop ((Lib.indexAny s sE).toNat + 1))).getD 0
def vPow (f : Lay) (s : List UInt8) : Int := max (if (46 : UInt8) ∈ vDig s then vExp f s else vExp f s - f.point) (-99999)
def valueP (f : Lay) (s : List UInt8) : Option Nat :=
 if (dpz 1024 s 0).2 = 0 ∧ (dpz 1024 (vDig s ++ 101 :: fmt (vPow f s)) 0).2 = 0 ∧ finF (dpz 1024 (vDig s ++ 101 :: fmt (vPow f s)) 0).1 = true then some (dpz 1024 (vDig s ++ 101 :: fmt (vPow f s)) 0).1 else none
def padL (s : List UInt8) : List UInt8 := List.replicate (14 - s.length) 32 ++ s
def padR (n : Nat) (s : List UInt8) : List UInt8 := s ++ List.replicate (n - s.length) 32
def sTitle : List UInt8 := [116, 105, 116, 108, 101]
def sRUA : List UInt8 := [82, 85, 65]
def bL1 : List UInt8 := padL [51] ++ padL [49] ++ padL [49] ++ padL [49] ++ padL [48]
def bL2 : List UInt8 := padR 14 sRUA ++ padL [49] ++ padL [49] ++ padL [49] ++ padL [48]
def bL3 (f : List UInt8) : List UInt8 := padR 16 [40, 50, 73, 52, 41] ++ padR 16 [40, 73, 52, 41] ++ f
def bL4 : List UInt8 := [32, 32, 32, 49, 32, 32, 32, 50]
def bL5 : List UInt8 := [32, 32, 32, 49]
def oneB (f v : List UInt8) : List UInt8 := sTitle ++ 10 :: (bL1 ++ 10 :: (bL2 ++ 10 :: (bL3 f ++ 10 :: (bL4 ++ 10 :: (bL5 ++ 10 :: (v ++ [10]))))))
theorem lns_cut {s : List UInt8} (h : (10 : UInt8) ∉ s) (cur r : List UInt8) : lns cur (s ++ 10 :: r) = noCR (cur ++ s) :: lns [] r := by
 induction s generalizing cur with
 | nil => rw [List.nil_append, List.append_nil, lns, if_pos rfl]
 | cons b s ih =>
  have h1 : b ≠ 10 := fun e => h (by simp [e])
  rw [List.cons_append, lns, if_neg h1, ih (fun m => h (List.mem_cons_of_mem _ m))]
  simp
theorem lines_one {f v : List UInt8} (hf : (10 : UInt8) ∉ f) (hf2 : noCR (bL3 f) = bL3 f) (hv : (10 : UInt8) ∉ v) (hv2 : noCR v = v) :
  mlines (oneB f v) = [sTitle, bL1, bL2, bL3 f, bL4, bL5, v] := by
 unfold mlines oneB
 have h3 : (10 : UInt8) ∉ bL3 f := by
  unfold bL3
  intro h
  rcases List.mem_append.1 h with h | h
  ·revert h; decide
  ·exact hf h
 rw [lns_cut (by decide), lns_cut (by decide), lns_cut (by decide), lns_cut h3, lns_cut (by decide), lns_cut (by decide), lns_cut hv]
 rw [List.nil_append, List.nil_append, List.nil_append, List.nil_append, List.nil_append, List.nil_append, List.nil_append, hf2, hv2]
 rfl
theorem cards_one : cntsP bL1 [(0, 14), (14, 28), (28, 42), (42, 56), (56, 70)] = some [3, 1, 1, 1, 0] := by decide +kernel
theorem sizes_one : cntsP bL2 [(14, 28), (28, 42), (42, 56), (56, 70)] = some [1, 1, 1, 0] := by decide +kernel
theorem kind_one : ups (part 0 3 bL2) = sRUA := by decide +kernel
theorem title_one : Lib.trimRightB (part 0 72 sTitle) 32 = sTitle ∧ Lib.trimRightB (part 72 80 sTitle) 32 = [] := by decide +kernel
theorem bL3_a (f : List UInt8) : part 0 16 (bL3 f) = padR 16 [40, 50, 73, 52, 41] := by
 unfold part bL3
 rw [List.append_assoc, List.take_append, List.take_of_length_le (by decide)]
 rfl
theorem bL3_b (f : List UInt8) : part 16 32 (bL3 f) = padR 16 [40, 73, 52, 41] := by
 unfold part bL3
 rw [List.take_append, List.take_of_length_le (by decide)]
 rfl
theorem bL3_c (f : List UInt8) : part 32 52 (bL3 f) = f.take 20 := by
 unfold part bL3
 rw [List.take_append, List.take_of_length_le (by decide), List.drop_append, List.drop_of_length_le (by decide)]
 rfl
theorem whole_a : wholeP (blank (padR 16 [40, 50, 73, 52, 41])) = some ⟨2, 4, 0, 0⟩ := by decide +kernel
theorem whole_b : wholeP (blank (padR 16 [40, 73, 52, 41])) = some ⟨1, 4, 0, 0⟩ := by decide +kernel
theorem ints_one : pz (blank (part 0 4 bL4)) = (1, 0) ∧ pz (blank (part 4 8 bL4)) = (2, 0) ∧ pz (blank (part 0 4 bL5)) = (1, 0) := by decide +kernel
def goodF : List (List UInt8) := [
 [40, 69, 50, 48, 46, 49, 48, 41], [40, 49, 101, 50, 48, 46, 49, 48, 41], [40, 52, 68, 50, 48, 46, 49, 41], [40, 50, 102, 50, 48, 46, 48, 41],
 [40, 49, 80, 44, 50, 69, 50, 48, 46, 49, 48, 41], [40, 48, 80, 53, 100, 50, 48, 46, 51, 41]]
def badF : List (List UInt8) := [
 [], [69, 50, 48, 46, 49, 48], [40, 73, 50, 48, 41], [40, 69, 50, 48, 41], [40, 50, 69, 50, 48, 46, 49, 48], [40, 48, 69, 50, 48, 46, 49, 48, 41], [40, 50, 69, 48, 46, 49, 41],
 [40, 51, 48, 69, 50, 48, 46, 49, 41], [40, 49, 80, 32, 50, 69, 50, 48, 46, 49, 41], [40, 50, 71, 50, 48, 46, 49, 48, 41], [40, 69, 50, 48, 46, 49, 48, 41, 32, 120]]
def v15 : List UInt8 := [49, 46, 53, 69, 48]
def v125 : List UInt8 := [32, 32, 32, 49, 50, 53]
theorem good_all : (goodF.all fun f => match decP (blank (f.take 20)) with
  | some l => decide (valueP l (blank (part 0 l.width v15)) = some 4609434218613702656) && decide ((10 : UInt8) ∉ f) && decide (noCR (bL3 f) = bL3 f)
  | none => false) = true := by decide +kernel
theorem bad_all : (badF.all fun f => decide (decP (blank (f.take 20)) = none) && decide ((10 : UInt8) ∉ f) && decide (noCR (bL3 f) = bL3 f)) = true := by decide +kernel
theorem awake_lay : decP (blank (([40, 51, 70, 54, 46, 50, 41] : List UInt8).take 20)) = some ⟨3, 6, 2, 0⟩ := by decide +kernel
theorem awake_val : valueP ⟨3, 6, 2, 0⟩ (blank (part 0 6 v125)) = some 4608308318706860032 := by decide +kernel
end Go.Proofs.YtbiohhmpclnpgaaGreatDoor
namespace Go.Proofs.YtbiohhmpclnpgaaGreatDoor
set_option linter.unusedSimpArgs false
set_option linter.unusedVariables false
theorem indexAny_none {ls : List UInt8} : ∀ {a : List UInt8}, (∀ b ∈ a, b ∉ ls) → Lib.indexAny a ls = -1
 | [], _ => rfl
 | b :: a, h => by
  have h1 : ls.contains b = false := by simpa using h b (by simp)
  rw [Lib.indexAny, h1, indexAny_none (fun c hc => h c (List.mem_cons_of_mem _ hc))]
  rfl
theorem indexAny_at {ls : List UInt8} {e : UInt8} (he : e ∈ ls) (r : List UInt8) : ∀ {a : List UInt8}, (∀ b ∈ a, b ∉ ls) → Lib.indexAny (a ++ e :: r) ls = a.length
 | [], _ => by
  have h1 : ls.contains e = true := by simpa using he
  rw [List.nil_append, Lib.indexAny, h1]
  rfl
 | b :: a, h => by
  have h1 : ls.contains b = false := by simpa using h b (by simp)
  rw [List.cons_append, Lib.indexAny, h1, indexAny_at he r (fun c hc => h c (List.mem_cons_of_mem _ hc))]
  have h2 : ((a.length : Int) == -1) = false := by simp
  rw [h2]
  simp
theorem blank_pad {x : List UInt8} (h0 : x ≠ []) (h : ∀ b ∈ x, b ≠ 32) : blank (32 :: 32 :: x) = x := by
 unfold blank Lib.trimB Lib.trimRightB Lib.trimLeftB
 have e1 : (32 :: 32 :: x).reverse = x.reverse ++ [32, 32] := by simp
 rw [e1]
 obtain ⟨c, y, hy⟩ := List.exists_cons_of_ne_nil (show x.reverse ≠ [] by simpa using h0)
 have hc : c ≠ 32 := h c (by rw [← List.mem_reverse, hy]; simp)
 rw [hy, List.cons_append, List.dropWhile_cons_of_neg (by simp [hc]), ← List.cons_append, ← hy]
 obtain ⟨d, z, hz⟩ := List.exists_cons_of_ne_nil h0
 have hd : d ≠ 32 := h d (by rw [hz]; simp)
 rw [List.reverse_append, List.reverse_reverse]
 show List.dropWhile _ (32 :: 32 :: x) = x
 rw [List.dropWhile_cons_of_pos (by decide), List.dropWhile_cons_of_pos (by decide), hz, List.dropWhile_cons_of_neg (by simp [hd])]
theorem dread_of {a r rest : List UInt8} (ha : a.all dig = true) (h0 : a ≠ []) (h : scan false r = ([], 0, rest)) :
  dread (a ++ r) = match rest with
   | [] => some (false, a, 0, 0)
   | e :: t => if isE e then (dexp t).map (fun x => (false, a, 0, x)) else none := by
 have e1 : dsg (a ++ r) = (false, a ++ r) := by
  obtain ⟨c, y, hy⟩ := List.exists_cons_of_ne_nil h0
  rw [hy, List.cons_append, dsg_cons (by rw [hy] at ha; simp at ha; exact ha.1)]
 have e2 : scan false (a ++ r) = (a, 0, rest) := by rw [scan_app ha, h]; simp
 unfold dread
 rw [e1, e2]
 simp only []
 rw [if_neg h0]
 cases rest <;> rfl
theorem dval_small {n : Nat} {x : Int} (hn : n < 100000) (hx : -13 ≤ x ∧ x ≤ 2) : dval false 0 n x < 9218868437227405312 := by
 unfold dval
 split
 ·decide
 ·rename_i h0
  have hN : 0 < n * 10 ^ x.toNat := Nat.mul_pos (by omega) (ten_pos _)
  have hD : 0 < 10 ^ (-x).toNat := ten_pos _
  have hb : n * 10 ^ x.toNat < 10 ^ (-x).toNat * 2 ^ 40 := by
   have h1 : 10 ^ x.toNat ≤ 10 ^ 2 := Nat.pow_le_pow_right (by decide) (by omega)
   have h2 : n * 10 ^ x.toNat ≤ 99999 * 10 ^ 2 := Nat.mul_le_mul (by omega) h1
   have h3 : 1 * 2 ^ 40 ≤ 10 ^ (-x).toNat * 2 ^ 40 := Nat.mul_le_mul_right _ hD
   omega
  have hl := lg_le hN hD hb
  unfold dvF
  obtain ⟨u, hu⟩ : ∃ u, max (lg (n * 10 ^ x.toNat) (10 ^ (-x).toNat) + 0 - 52) (-1074) = u := ⟨_, rfl⟩
  obtain ⟨a1, a2⟩ := rnd_unit hN hD hu
  have hr := rm_bounds false 0 (n * 10 ^ x.toNat * 2 ^ ((0 : Int) - u).toNat) (10 ^ (-x).toNat * 2 ^ (u - 0).toNat)
  rw [rndF_lin false 0 hN hD hu]
  have hlin : linF (rm false 0 (n * 10 ^ x.toNat * 2 ^ ((0 : Int) - u).toNat) (10 ^ (-x).toNat * 2 ^ (u - 0).toNat)) u < 9218868437227405312 := by
   unfold linF
   have hu2 : (u + 1074).toNat ≤ 1062 := by omega
   generalize rm false 0 (n * 10 ^ x.toNat * 2 ^ ((0 : Int) - u).toNat) (10 ^ (-x).toNat * 2 ^ (u - 0).toNat) = q at hr ⊢
   omega
  rw [if_neg (by omega)]
  unfold sgnF
  simpa using hlin
theorem finF_small {f : Nat} (h : f < 9218868437227405312) : finF f = true := by
 unfold finF
 have : f / 4503599627370496 < 2047 := by omega
 simp
 omega
def ptF (point power : Bool) (n : Nat) : List UInt8 := dec n ++ ((if point then [46] else []) ++ (if power then [69, 50] else []))
def ptX (d s : Nat) (point power : Bool) : Int := (if point then 0 else -(d : Int)) + (if power then 2 else -(s : Int))
def ptFmt (s d : Nat) : List UInt8 := 40 :: (dec s ++ ([80, 50, 69, 50, 48, 46] ++ (dec d ++ [41])))
theorem pt_all : ((List.range 6).all fun s => (List.range 8).all fun d => decide (decP (blank ((ptFmt s d).take 20)) = some ⟨2, 20, d, s⟩) && decide ((10 : UInt8) ∉ ptFmt s d) && decide (noCR (bL3 (ptFmt s d)) = bL3 (ptFmt s d))) = true := by decide +kernel
theorem pt_lay {s d : Nat} (hs : s < 6) (hd : d < 8) : decP (blank ((ptFmt s d).take 20)) = some ⟨2, 20, d, s⟩ ∧ (10 : UInt8) ∉ ptFmt s d ∧ noCR (bL3 (ptFmt s d)) = bL3 (ptFmt s d) := by
 have h := pt_all
 rw [List.all_eq_true] at h
 have h1 := h s (List.mem_range.2 hs)
 rw [List.all_eq_true] at h1
 have h2 := h1 d (List.mem_range.2 hd)
 simp only [Bool.and_eq_true, decide_eq_true_eq] at h2
 exact ⟨h2.1.1, h2.1.2, h2.2⟩
theorem dig_ne {b : UInt8} (h : dig b = true) : b ≠ 32 ∧ b ≠ 46 ∧ b ∉ sE ∧ b ≠ 10 ∧ b ≠ 13 := by
 have h1 := dig_le h
 refine ⟨?_, ?_, ?_, ?_, ?_⟩
 ·rintro rfl; revert h1; decide
 ·rintro rfl; revert h1; decide
 ·intro hm
  simp only [sE, List.mem_cons, List.not_mem_nil, or_false] at hm
  rcases hm with rfl | rfl | rfl | rfl <;> (revert h1; decide)
 ·rintro rfl; revert h1; decide
 ·rintro rfl; revert h1; decide
theorem dec_dig {n : Nat} {b : UInt8} (h : b ∈ dec n) : dig b = true := List.all_eq_true.1 (dec_digits n).1 b h
theorem pt_want {d s n : Nat} (point power : Bool) (hd : d < 8) (hs : s < 6) (hl : (dec n).length ≤ 5) :
  dpz 1024 (dec n ++ 101 :: fmt (ptX d s point power)) 0 = (dval false 0 n (ptX d s point power), 0) := by
 obtain ⟨h1, h2, h3⟩ := dec_digits n
 have hx : -99999 ≤ ptX d s point power ∧ ptX d s point power ≤ 99999 := by unfold ptX; split <;> split <;> omega
 have h := spell_a (c := 101) 0 h1 h3 (by decide) (by omega) hx
 rw [h2] at h
 exact h
theorem dread_dotB {a t : List UInt8} {c : UInt8} {x : Int} (ha : a.all dig = true) (h0 : a ≠ []) (hc : isE c = true) (hx : dexp t = some x) : dread (a ++ 46 :: c :: t) = some (false, a, 0, x) := by
 obtain ⟨k1, k2⟩ := isE_dig hc
 rw [dread_of ha h0 (rest := c :: t) (by
  rw [scan, if_neg (by decide), if_pos ⟨rfl, rfl⟩]
  exact scan_stop t true k1 k2)]
 simp only [hc, if_true, hx, Option.map_some]
theorem pt_value {d s n : Nat} (point power : Bool) (hd : d < 8) (hs : s < 6) (hn : n < 100000) (hl : (dec n).length ≤ 5) :
  valueP ⟨2, 20, d, s⟩ (ptF point power n) = some (dval false 0 n (ptX d s point power)) := by
 obtain ⟨h1, h2, h3⟩ := dec_digits n
 have hx : -13 ≤ ptX d s point power ∧ ptX d s point power ≤ 2 := by unfold ptX; split <;> split <;> omega
 have hfin := finF_small (dval_small hn hx)
 have hno : ∀ b ∈ dec n ++ (if point then [46] else []), b ∉ sE := by
  intro b hb
  rcases List.mem_append.1 hb with hb | hb
  ·exact (dig_ne (dec_dig hb)).2.2.1
  ·cases point
   ·simp at hb
   ·simp at hb; rw [hb]; decide
 have hix : Lib.indexAny (ptF point power n) sE = if power then ((dec n ++ (if point then [46] else [])).length : Int) else -1 := by
  unfold ptF
  rw [← List.append_assoc]
  cases power
  ·simp only [if_false, Bool.false_eq_true, List.append_nil]
   exact indexAny_none hno
  ·simp only [if_true]
   exact indexAny_at (by decide) _ hno
 have hvd : vDig (ptF point power n) = dec n ++ (if point then [46] else []) := by
  unfold vDig
  rw [hix]
  cases power
  ·simp [ptF]
  ·simp only [if_true]
   rw [if_neg (by omega), Int.toNat_natCast]
   unfold ptF
   rw [← List.append_assoc, List.take_left']
   rfl
 have hve : vExp ⟨2, 20, d, s⟩ (ptF point power n) = if power then 2 else -(s : Int) := by
  unfold vExp
  rw [hix]
  cases power
  ·simp
  ·simp only [if_true]
   rw [if_neg (by omega), Int.toNat_natCast]
   unfold ptF
   rw [← List.append_assoc, List.drop_append, List.drop_of_length_le (by omega), List.nil_append]
   rw [show ∀ k : Nat, k + 1 - k = 1 from fun k => by omega]
   decide
 have hmem : ((46 : UInt8) ∈ dec n ++ (if point then [46] else [])) ↔ point = true := by
  constructor
  ·intro h
   rcases List.mem_append.1 h with h | h
   ·exact absurd rfl (dig_ne (dec_dig h)).2.1
   ·cases point
    ·simp at h
    ·rfl
  ·rintro rfl; simp
 have hvp : vPow ⟨2, 20, d, s⟩ (ptF point power n) = ptX d s point power := by
  unfold vPow
  rw [hvd, hve]
  have : (if (46 : UInt8) ∈ dec n ++ (if point then [46] else []) then (if power then (2 : Int) else -(s : Int)) else (if power then (2 : Int) else -(s : Int)) - (d : Int)) = ptX d s point power := by
   unfold ptX
   cases point
   ·rw [if_neg (by rw [hmem]; decide)]; simp; omega
   ·rw [if_pos (by rw [hmem])]; simp
  show max (if (46 : UInt8) ∈ dec n ++ (if point then [46] else []) then _ else _ - (d : Int)) (-99999) = _
  rw [this]
  omega
 have hread : dpz 1024 (vDig (ptF point power n) ++ 101 :: fmt (vPow ⟨2, 20, d, s⟩ (ptF point power n))) 0 = (dval false 0 n (ptX d s point power), 0) := by
  rw [hvd, hvp]
  cases hp : point
  ·simp only [if_false, Bool.false_eq_true, List.append_nil]
   have := pt_want (n := n) false power hd hs hl
   rw [hp] at *
   exact this
  ·simp only [if_true]
   rw [List.append_assoc, List.cons_append, List.nil_append]
   have hf := fmt_short (x := ptX d s true power) (by rw [← hp]; omega)
   rw [dpz_of 0 (by rw [List.length_append, List.length_cons, List.length_cons]; omega) (dread_dotB h1 h3 (by decide) (dexp_fmt _)) (by rw [← hp]; omega), h2]
   simp
 have hfirst : (dpz 1024 (ptF point power n) 0).2 = 0 := by
  have e2 : dexp [50] = some 2 := by decide
  have hr : ∃ x : Int, -99999 ≤ x ∧ x ≤ 99999 ∧ dread (ptF point power n) = some (false, dec n, 0, x) := by
   unfold ptF
   cases point <;> cases power
   ·exact ⟨0, by omega, by omega, by rw [dread_of h1 h3 (rest := []) (by rfl)]⟩
   ·exact ⟨2, by omega, by omega, by
     rw [dread_of h1 h3 (rest := [69, 50]) (by decide)]
     simp only [e2, Option.map_some]
     rfl⟩
   ·exact ⟨0, by omega, by omega, by rw [dread_of h1 h3 (rest := []) (by decide)]⟩
   ·exact ⟨2, by omega, by omega, by
     rw [dread_of h1 h3 (rest := [69, 50]) (by decide)]
     simp only [e2, Option.map_some]
     rfl⟩
  obtain ⟨x, hx1, hx2, hr⟩ := hr
  rw [dpz_of 0 (by
   unfold ptF
   rw [List.length_append, List.length_append]
   cases point <;> cases power <;> simp <;> omega) hr ⟨hx1, hx2⟩]
 unfold valueP
 rw [hread]
 rw [if_pos ⟨hfirst, rfl, hfin⟩]
theorem pt_field {n : Nat} (point power : Bool) (hl : (dec n).length ≤ 5) : blank (part 0 20 (32 :: 32 :: ptF point power n)) = ptF point power n ∧ (10 : UInt8) ∉ 32 :: 32 :: ptF point power n ∧ noCR (32 :: 32 :: ptF point power n) = 32 :: 32 :: ptF point power n := by
 obtain ⟨h1, h2, h3⟩ := dec_digits n
 have hb : ∀ b ∈ ptF point power n, b ≠ 32 ∧ b ≠ 10 ∧ b ≠ 13 := by
  intro b hb
  unfold ptF at hb
  rcases List.mem_append.1 hb with hb | hb
  ·have := dig_ne (dec_dig hb)
   exact ⟨this.1, this.2.2.2.1, this.2.2.2.2⟩
  ·cases point <;> cases power <;> simp at hb
   ·rcases hb with rfl | rfl <;> decide
   ·subst hb; decide
   ·rcases hb with rfl | rfl | rfl <;> decide
 have hne : ptF point power n ≠ [] := by unfold ptF; simp [h3]
 have hlen : (ptF point power n).length ≤ 8 := by
  unfold ptF
  rw [List.length_append, List.length_append]
  cases point <;> cases power <;> simp <;> omega
 refine ⟨?_, ?_, ?_⟩
 ·unfold part
  rw [List.drop_zero, List.take_of_length_le (by simp only [List.length_cons]; omega)]
  exact blank_pad hne fun b h => (hb b h).1
 ·intro h
  simp only [List.mem_cons] at h
  rcases h with h | h | h
  ·revert h; decide
  ·revert h; decide
  ·exact (hb _ h).2.1 rfl
 ·unfold noCR
  rw [if_neg]
  intro h
  have hm : (13 : UInt8) ∈ 32 :: 32 :: ptF point power n := List.mem_of_getLast? h
  simp only [List.mem_cons] at hm
  rcases hm with h | h | h
  ·revert h; decide
  ·revert h; decide
  ·exact (hb _ h).2.2 rfl
theorem dec_five {n : Nat} (h : n < 100000) : (dec n).length ≤ 5 := by
 have h4 := (padk_eq 4 n (by omega)).1
 omega
structure Good (b : List UInt8) (l0 : List UInt8) (v : Nat) : Prop where
 ok : ∃ f x lay, mlines b = [l0, bL1, bL2, bL3 f, bL4, bL5, x] ∧ decP (blank (f.take 20)) = some lay ∧ valueP lay (blank (part 0 lay.width x)) = some v
theorem formats_bad {f : List UInt8} (h : f ∈ badF) : mlines (oneB f v15) = [sTitle, bL1, bL2, bL3 f, bL4, bL5, v15] ∧ decP (blank (f.take 20)) = none := by
 have h1 := List.all_eq_true.1 bad_all f h
 simp only [Bool.and_eq_true, decide_eq_true_eq] at h1
 exact ⟨lines_one h1.1.2 h1.2 (by decide) (by decide), h1.1.1⟩
end Go.Proofs.YtbiohhmpclnpgaaGreatDoor
namespace Go.Proofs.YtbiohhmpclnpgaaGreatDoor
open Go.RowKit
set_option linter.unusedSimpArgs false
set_option linter.unusedVariables false
def upk (k : Nat) (s : List UInt8) : List UInt8 := (s.take k).map up1 ++ s.drop k
theorem upk_get {k : Nat} {s : List UInt8} {b : UInt8} (h : s[k]? = some b) : (upk k s)[k]? = some b := by
 have hlt := (List.getElem?_eq_some_iff.1 h).1
 unfold upk
 rw [List.getElem?_append_right (by simp; omega)]
 simp only [List.length_map, List.length_take, Nat.min_eq_left (Nat.le_of_lt hlt), Nat.sub_self, List.getElem?_drop, Nat.add_zero]
 exact h
theorem upk_next {k : Nat} {s : List UInt8} {b : UInt8} (h : s[k]? = some b) : (upk k s).set k (up1 b) = upk (k + 1) s := by
 obtain ⟨hlt, rfl⟩ := List.getElem?_eq_some_iff.1 h
 unfold upk
 rw [List.set_append_right _ _ (by simp; omega)]
 simp only [List.length_map, List.length_take, Nat.min_eq_left (Nat.le_of_lt hlt), Nat.sub_self]
 rw [List.drop_eq_getElem_cons hlt, List.set_cons_zero, List.take_add_one, h]
 simp only [Option.toList_some, List.map_append, List.map_cons, List.map_nil, List.append_assoc, List.singleton_append]
theorem upk_same {k : Nat} {s : List UInt8} {b : UInt8} (h : s[k]? = some b) (hb : up1 b = b) : upk (k + 1) s = upk k s := by
 rw [← upk_next h, hb]
 have h2 := upk_get h
 refine List.ext_getElem? fun i => ?_
 by_cases e : i = k
 ·subst e
  rw [List.getElem?_set_self (List.getElem?_eq_some_iff.1 h2).1, h2]
 ·rw [List.getElem?_set_ne (fun h => e h.symm)]
theorem up1_up {b : UInt8} {n : Nat} (hn : b.toNat = n) (h1 : 97 ≤ n) (h2 : n ≤ 122) : (up1 b).toNat = n - 32 := by
 unfold up1
 rw [if_pos (by omega), UInt8.toNat_sub]
 show (2 ^ 8 - 32 + b.toNat) % 2 ^ 8 = _
 omega
theorem up1_id {b : UInt8} (h : ¬ (97 ≤ b.toNat ∧ b.toNat ≤ 122)) : up1 b = b := by unfold up1; rw [if_neg h]
theorem part_eq (a b : Nat) (s : List UInt8) : part a b s = (s.take (min b s.length)).drop (min a s.length) := by
 unfold part
 refine List.ext_getElem? fun i => ?_
 rw [List.getElem?_drop, List.getElem?_drop, List.getElem?_take, List.getElem?_take]
 by_cases h : a ≤ s.length
 ·rw [Nat.min_eq_left h]
  by_cases h2 : a + i < b
  ·by_cases h3 : a + i < s.length
   ·rw [if_pos h2, if_pos (by omega)]
   ·rw [if_pos h2, if_neg (by omega), List.getElem?_eq_none (by omega)]
  ·rw [if_neg h2, if_neg (by omega)]
 ·have e1 : s[a + i]? = none := List.getElem?_eq_none (by omega)
  have e2 : s[s.length + i]? = none := List.getElem?_eq_none (by omega)
  rw [Nat.min_eq_right (by omega), e1, e2]
  split <;> split <;> rfl
theorem blank_len (s : List UInt8) : (blank s).length ≤ s.length := by
 unfold blank Lib.trimB Lib.trimRightB Lib.trimLeftB
 refine Nat.le_trans (List.dropWhile_suffix _).length_le ?_
 rw [List.length_reverse]
 refine Nat.le_trans (List.dropWhile_suffix _).length_le ?_
 rw [List.length_reverse]; exact Nat.le_refl _
theorem part_len (a b : Nat) (s : List UInt8) : (part a b s).length ≤ s.length := by
 unfold part
 rw [List.length_drop, List.length_take]
 omega
theorem indexAny_lt (ls : List UInt8) : ∀ s : List UInt8, 0 ≤ Lib.indexAny s ls → Lib.indexAny s ls < (s.length : Int)
 | [], h => absurd h (by simp [Lib.indexAny])
 | b :: l, h => by
  have ih := indexAny_lt ls l
  have hg := Lib.indexAny_ge ls l
  rw [Lib.indexAny] at h ⊢
  simp only [List.length_cons]
  split
  ·omega
  ·rename_i hb
   rw [if_neg hb] at h
   split
   ·omega
   ·rename_i h1
    rw [if_neg h1] at h
    have h2 : Lib.indexAny l ls ≠ -1 := by simpa using h1
    have := ih (by omega)
    omega
def asc (s : List UInt8) : Bool := s.all fun b => decide (b.toNat < 128)
theorem asc_sub {s r : List UInt8} (h : asc s = true) (hr : ∀ b ∈ r, b ∈ s) : asc r = true := by
 unfold asc at h ⊢
 rw [List.all_eq_true] at h ⊢
 exact fun b hb => h b (hr b hb)
theorem asc_take {s : List UInt8} (h : asc s = true) (n : Nat) : asc (s.take n) = true := asc_sub h fun _ hb => List.mem_of_mem_take hb
theorem asc_drop {s : List UInt8} (h : asc s = true) (n : Nat) : asc (s.drop n) = true := asc_sub h fun _ hb => List.mem_of_mem_drop hb
theorem asc_part {s : List UInt8} (h : asc s = true) (a b : Nat) : asc (part a b s) = true := asc_drop (asc_take h b) a
theorem asc_blank {s : List UInt8} (h : asc s = true) : asc (blank s) = true := by
 refine asc_sub h fun b hb => ?_
 unfold blank Lib.trimB Lib.trimRightB Lib.trimLeftB at hb
 have h1 := (List.dropWhile_suffix _).subset hb
 rw [List.mem_reverse] at h1
 have h2 := (List.dropWhile_suffix _).subset h1
 rwa [List.mem_reverse] at h2
theorem asc_ups {s : List UInt8} (h : asc s = true) : asc (ups s) = true := by
 unfold asc at h ⊢
 rw [List.all_eq_true] at h ⊢
 intro b hb
 unfold ups at hb
 obtain ⟨c, hc, rfl⟩ := List.mem_map.1 hb
 have h1 := h c hc
 simp only [decide_eq_true_eq] at h1 ⊢
 by_cases hu : 97 ≤ c.toNat ∧ c.toNat ≤ 122
 ·rw [up1_up rfl hu.1 hu.2]; omega
 ·rw [up1_id hu]; exact h1
theorem asc_trimPrefix {s p : List UInt8} (h : asc s = true) : asc (Lib.trimPrefix s p) = true := by
 unfold Lib.trimPrefix
 split
 ·exact asc_drop h _
 ·exact h
theorem asc_trimSuffix {s p : List UInt8} (h : asc s = true) : asc (Lib.trimSuffix s p) = true := by
 unfold Lib.trimSuffix
 split
 ·exact asc_take h _
 ·exact h
theorem asc_inner {s r : List UInt8} (h : asc s = true) (hr : innerP s = some r) : asc r = true := by
 unfold innerP at hr
 split at hr
 ·cases hr
  exact asc_trimSuffix (asc_trimPrefix (asc_ups h))
 ·cases hr
theorem short_le {s : List UInt8} {n : Nat} (h : shortP s = some n) : n ≤ 999 := by
 unfold shortP at h
 split at h
 ·rename_i hc
  cases h
  obtain ⟨h1, h2⟩ := hc
  unfold dgts at h1 ⊢
  split
  ·rename_i hd
   have h3 := num_lt s hd
   have h4 : 10 ^ s.length ≤ 10 ^ 3 := Nat.pow_le_pow_right (by decide) h2
   show min (num s) 1073741824 ≤ 999
   omega
  ·exact Nat.zero_le _
 ·cases h
theorem counted_le {s ls r : List UInt8} {c : Nat} (h : countedP s ls = some (c, r)) : c ≤ 999 := by
 unfold countedP at h
 split at h
 ·cases h
 ·split at h
  ·cases h; decide
  ·rw [Option.map_eq_some_iff] at h
   obtain ⟨n, hn, he⟩ := h
   cases he
   exact short_le hn
end Go.Proofs.YtbiohhmpclnpgaaGreatDoor
namespace Go.Proofs.YtbiohhmpclnpgaaGreatDoor
set_option linter.unusedSimpArgs false
set_option linter.unusedVariables false
theorem sound_le {f : Lay} (h : soundP f = true) : 1 ≤ f.count ∧ f.count ≤ 512 ∧ 1 ≤ f.width ∧ f.width ≤ 512 := by
 unfold soundP at h
 obtain ⟨h1, h2, h3⟩ := of_decide_eq_true h
 have a : f.count * 1 ≤ f.count * f.width := Nat.mul_le_mul_left _ h2
 have b : 1 * f.width ≤ f.count * f.width := Nat.mul_le_mul_right _ h1
 omega
theorem dec1_sound {sc : Nat} {s : List UInt8} {f : Lay} (h : decP1 sc s = some f) : soundP f = true ∧ f.scale = sc ∧ f.point ≤ 999 := by
 unfold decP1 at h
 split at h
 ·cases h
 ·split at h
  ·split at h
   ·rename_i hp
    split at h
    ·rename_i hs
     cases h
     exact ⟨hs, rfl, short_le hp⟩
    ·cases h
   ·cases h
  ·cases h
theorem dgts_one {s : List UInt8} (h : s.length ≤ 1) : (dgts s).1 ≤ 9 := by
 unfold dgts
 split
 ·rename_i hd
  have h3 := num_lt s hd
  have h4 : 10 ^ s.length ≤ 10 ^ 1 := Nat.pow_le_pow_right (by decide) h
  show min (num s) 1073741824 ≤ 9
  omega
 ·exact Nat.zero_le _
theorem dec_sound {s : List UInt8} {f : Lay} (h : decP s = some f) : soundP f = true ∧ f.scale ≤ 9 ∧ f.point ≤ 999 := by
 unfold decP at h
 split at h
 ·cases h
 ·split at h
  ·split at h
   ·obtain ⟨a, b, c⟩ := dec1_sound h
    refine ⟨a, ?_, c⟩
    rw [b]
    exact dgts_one (by rw [List.length_take]; omega)
   ·cases h
  ·obtain ⟨a, b, c⟩ := dec1_sound h
   exact ⟨a, by omega, c⟩
end Go.Proofs.YtbiohhmpclnpgaaGreatDoor
