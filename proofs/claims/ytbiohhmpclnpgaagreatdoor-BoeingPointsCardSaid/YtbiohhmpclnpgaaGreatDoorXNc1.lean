import Derived.Test.YtbiohhmpclnpgaaGreatDoorXNc3
import Derived.Test.YtbiohhmpclnpgaaGreatDoorXMc8
namespace Go.Proofs.YtbiohhmpclnpgaaGreatDoor
open Go.RowKit
set_option linter.unusedSimpArgs false
set_option linter.unusedVariables false
set_option maxHeartbeats 8000000
set_option maxRecDepth 100000
attribute [local irreducible] wpList Code.wp Plan.wp
theorem ev_subY {P : Program} {a : Act} {w : World} {o : Oper} {t t' : TypeId} {x y : Operand} (ho : o.op = .binOp .sub t x y t') {m n : Int} (z : Int) (hx : a.eval x = .int .i64 m) (hy : a.eval y = .int .i64 n) (hz : Hid (m - n = z)) (hr : inr .i64 z := by simp only [inr]; omega) : (execOp a.eval o).run P w = .ok (.value (.int .i64 z)) w := by
 have hz := hz.out
 subst hz
 exact ev_sub ho hx hy hr
theorem value_fin' {f : Lay} {s : List UInt8} {v : Nat} (h : valueP f s = some v) : finF v = true ∧ v < 18446744073709551616 := by
 unfold valueP at h
 split at h
 ·rename_i k
  cases h
  exact ⟨k.2.2, dpz_lt _ _ _⟩
 ·cases h
theorem fmt_short2 {x : Int} (h1 : -99999 ≤ x) (h2 : x ≤ 99999999) : (fmt x).length ≤ 100 := by
 have h : ∀ n : Nat, n ≤ 99999999 → (dec n).length ≤ 99 := by
  intro n hn
  have h8 := (padk_eq 8 n (by omega)).1
  omega
 unfold fmt
 split
 ·have := h x.natAbs (by omega)
  simp only [List.length_cons]
  omega
 ·have := h x.natAbs (by omega)
  omega
theorem itoaZ_any (x : Int) (hx : -9223372036854775808 ≤ x ∧ x ≤ 9223372036854775807) (w : World) (ht : La w) {l : List UInt8} (hl : Hid (fmt x = l)) :
  Calls Tryz.prog 6 #[.int .i64 x] w fun e w' => e = .returned (strV l) ∧ Fr [] w w' := by
 refine Calls.mono (Tryz.strconv_Itoa x (by omega) (by omega) w ht.2) ?_
 rintro e w' ⟨rfl, k, os, rfl⟩
 refine ⟨?_, Fr.grow w k os⟩
 rw [← hl.out]
 unfold Lib.itoa fmt dec
 split
 ·rfl
 ·rw [show x.toNat = x.natAbs by omega]; rfl
theorem parseP_any (w : World) (s : List UInt8) (mode : Int) (hT : La w) {v : Nat} {e : Int} (h : Hid (dpz 1024 s mode = (v, e))) :
  Calls Tryz.prog 7 #[strV s, .int .i64 mode] w fun r w' => r = .returned (.tuple #[.int .u64 (v : Int), .int .i64 e]) ∧ Fr [] w w' := by
 have hp := parseD_any w s mode hT
 rw [h.out] at hp
 exact hp
theorem contains_any (w : World) (s : List UInt8) {b : Bool} (hb : Hid (decide ((46 : UInt8) ∈ s) = b)) : Calls Tryz.prog 114 #[strV s, .string (ByteArray.mk #[46])] w fun e w' => e = .returned (.bool b) ∧ Fr [] w w' := by
 refine Calls.mono (Tryz.strings_Contains_one ⟨s.toArray⟩ 46 w) ?_
 rintro e w' ⟨rfl, rfl⟩
 refine ⟨?_, Fr.refl _ _⟩
 rw [ba_lst, ← index_byte, ← hb.out]
 rcases index_one 46 s with ⟨h1, h2⟩ | ⟨i, h1, _, _, h4⟩
 ·rw [h1, decide_eq_false h2]; rfl
 ·have hm : (46 : UInt8) ∈ s := by rw [h4]; simp
  rw [h1, decide_eq_true hm, decide_eq_true (by omega)]
theorem atoiS_any (w : World) (s : List UInt8) (hl : s.length ≤ 18) {n : Int} (h : Hid (Lib.atoi s = some n)) : Calls Tryz.prog 47 #[strV s] w fun e w' => e = .returned (.tuple #[.int .i64 n, .nilIface]) ∧ Fr [] w w' := by
 refine Calls.mono (Tryz.strconv_Atoi ⟨s.toArray⟩ n (by rw [ba_size]; exact hl) (by rw [ba_lst]; exact h.out) w) ?_
 rintro e w' ⟨rfl, t, rfl⟩
 exact ⟨rfl, Fr.of_below (Lib.bytesWorld_below _ _ _)⟩
def atOK (s : List UInt8) : Bool := decide (Lib.indexAny s sE < 0) || (Lib.atoi (s.drop ((Lib.indexAny s sE).toNat + 1))).isSome && decide (-100000 ≤ (Lib.atoi (s.drop ((Lib.indexAny s sE).toNat + 1))).getD 0 ∧ (Lib.atoi (s.drop ((Lib.indexAny s sE).toNat + 1))).getD 0 ≤ 100000)
set_option maxHeartbeats 32000000 in
theorem value_any (w : World) (c wd : Int) (p sc : Nat) (hp9 : p ≤ 999) (hs9 : sc ≤ 9) (s : List UInt8) (hs : s.length ≤ 18) (ha : asc s = true) (hat : atOK s = true) (hT : La w) {c' w' : Nat} {v : Nat} (hv : Hid (valueP ⟨c', w', p, sc⟩ s = some v)) :
  Calls Tryz.prog 70 #[.agg #[.int .i64 c, .int .i64 wd, .int .i64 (p : Int), .int .i64 (sc : Int)], strV s] w fun e w' => e = .returned (.tuple #[.int .u64 (v : Int), .bool true]) ∧ Fr [] w w' := by
 have hv0 := hv.out
 have hv64 := (value_fin' hv0).2
 have HFI := hid (value_fin' hv0).1
 obtain ⟨d, hd⟩ : ∃ d, vDig s = d := ⟨_, rfl⟩
 obtain ⟨x, hx⟩ : ∃ x, vExp ⟨c', w', p, sc⟩ s = x := ⟨_, rfl⟩
 obtain ⟨q, hq0⟩ : ∃ q, vPow ⟨c', w', p, sc⟩ s = q := ⟨_, rfl⟩
 obtain ⟨b, hb⟩ : ∃ b, decide ((46 : UInt8) ∈ d) = b := ⟨_, rfl⟩
 obtain ⟨fq, hfq⟩ : ∃ fq, fmt q = fq := ⟨_, rfl⟩
 obtain ⟨t, ht⟩ : ∃ t, d ++ 101 :: fq = t := ⟨_, rfl⟩
 obtain ⟨v1, e1, hp1⟩ : ∃ v1 e1, dpz 1024 s 0 = (v1, e1) := ⟨_, _, rfl⟩
 have hdl : d.length ≤ 18 := by
  rw [← hd]; unfold vDig
  split
  ·exact hs
  ·rw [List.length_take]; omega
 have hfl : fq.length ≤ 100 := by
  have hq1 : -99999 ≤ q := by rw [← hq0]; unfold vPow; omega
  have hq2 : q ≤ 99999999 := by
   rw [← hq0]; unfold vPow
   have hx2 : x ≤ 100000 := by
    rw [← hx]; unfold vExp
    split
    ·show -(sc : Int) ≤ 100000
     omega
    ·rename_i hn
     unfold atOK at hat
     rw [decide_eq_false hn, Bool.false_or, Bool.and_eq_true] at hat
     exact (of_decide_eq_true hat.2).2
   rw [hx]
   show max (if (46 : UInt8) ∈ vDig s then x else x - (p : Int)) (-99999) ≤ 99999999
   split <;> omega
  rw [← hfq]
  exact fmt_short2 hq1 hq2
 have HVP := hid (show max (if b = true then x else x - (p : Int)) (-99999) = q by
  rw [← hq0, ← hb]; unfold vPow
  rw [hd, hx]
  by_cases hm : (46 : UInt8) ∈ d
  ·rw [if_pos hm, if_pos (by simpa using hm)]
  ·rw [if_neg hm, if_neg (by simpa using hm)])
 obtain ⟨he1, hp2⟩ : e1 = 0 ∧ dpz 1024 t 0 = (v, 0) := by
  unfold valueP at hv0
  rw [hd, hq0, hfq, ht, hp1] at hv0
  split at hv0
  ·rename_i h
   exact ⟨h.1, Prod.ext (Option.some.inj hv0) h.2.1⟩
  ·cases hv0
 subst he1
 have HP1 := hid hp1
 have HP2 := hid hp2
 have HB := hid hb
 have HFQ := hid hfq
 have HC2 := hid (show (d ++ [101]) ++ fq = t by rw [← ht]; simp)
 have HT := hid hT
 have HASC := hid ha
 obtain ⟨z, hz⟩ : ∃ z, Lib.indexAny s sE = z := ⟨_, rfl⟩
 have hge := Lib.indexAny_ge sE s
 have hlt := indexAny_lt sE s
 rw [hz] at hge hlt
 have hx9 : -1000000 ≤ x ∧ x ≤ 1000000 := by
  rw [← hx]; unfold vExp
  split
  ·show -1000000 ≤ -(sc : Int) ∧ -(sc : Int) ≤ 1000000
   omega
  ·rename_i hn
   unfold atOK at hat
   rw [decide_eq_false hn, Bool.false_or, Bool.and_eq_true] at hat
   have := of_decide_eq_true hat.2
   omega
 clear hp1 hp2 hb hfq ht hq0 hv0 hv hT ha
 have H := Hp.start [] w
 rcases Int.lt_or_le z 0 with h0 | h0
 ·obtain rfl : z = -1 := by omega
  have hds : d = s := by rw [← hd]; unfold vDig; rw [hz, if_pos (by decide)]
  have hxs : x = -(sc : Int) := by rw [← hx]; unfold vExp; rw [hz, if_pos (by decide)]
  have HX := hid (show (0 : Int) - (sc : Int) = x by rw [hxs]; omega)
  subst hds
  have HZ := hid hz
  clear hz hlt hge h0 hd hx hxs hat
  go_enter Tryz.func70, Tryz.ntmps70
  go_wp2_with (first | refine x_q H ?_ | refine x_cm (fun h => ?_) (fun h => ?_) | refine x_l H ?_ | refine x_e (ev_strLen rfl rfl) ?_ | (revert H; refine x_g ?_; (first | (have hh := g3; clear hh; intro g4 w1 hg hf H) | (have hh := g2; clear hh; intro g3 w1 hg hf H) | (have hh := g1; clear hh; intro g2 w1 hg hf H) | (have hh := g0; clear hh; intro g1 w1 hg hf H) | intro g0 w1 hg hf H); (first | replace hf := hf.kp | clear hf)) | (revert H; refine x_s ?_; intro w1 hf H; (first | replace hf := hf.kp | clear hf)) | (revert H; refine x_sF ?_; intro w1 hf H hk; clear hf hk))
  (refine x_c H (parseP_any _ d 0 (HT.out.fr H.fr) HP1) ?_; clear H; rintro e w1 ⟨rfl, hF⟩ H; clear hF)
  go_wp2_with (first | refine x_q H ?_ | refine x_cm (fun h => ?_) (fun h => ?_) | refine x_l H ?_ | refine x_e (ev_strLen rfl rfl) ?_ | (revert H; refine x_g ?_; (first | (have hh := g3; clear hh; intro g4 w1 hg hf H) | (have hh := g2; clear hh; intro g3 w1 hg hf H) | (have hh := g1; clear hh; intro g2 w1 hg hf H) | (have hh := g0; clear hh; intro g1 w1 hg hf H) | intro g0 w1 hg hf H); (first | replace hf := hf.kp | clear hf)) | (revert H; refine x_s ?_; intro w1 hf H; (first | replace hf := hf.kp | clear hf)) | (revert H; refine x_sF ?_; intro w1 hf H hk; clear hf hk))
  (refine x_c H (indexAny_any _ d sE (by omega) (by decide) HASC.out (by decide) HZ) ?_; clear H; rintro e w1 ⟨rfl, hF⟩ H; clear hF)
  go_wp2_with (first | refine x_e (ev_subY rfl x rfl rfl HX) ?_ | refine x_q H ?_ | refine x_cm (fun h => ?_) (fun h => ?_) | refine x_l H ?_ | refine x_e (ev_strLen rfl rfl) ?_ | (revert H; refine x_g ?_; (first | (have hh := g3; clear hh; intro g4 w1 hg hf H) | (have hh := g2; clear hh; intro g3 w1 hg hf H) | (have hh := g1; clear hh; intro g2 w1 hg hf H) | (have hh := g0; clear hh; intro g1 w1 hg hf H) | intro g0 w1 hg hf H); (first | replace hf := hf.kp | clear hf)) | (revert H; refine x_s ?_; intro w1 hf H; (first | replace hf := hf.kp | clear hf)) | (revert H; refine x_sF ?_; intro w1 hf H hk; clear hf hk))
  (refine x_c H (contains_any _ d HB) ?_; clear H; rintro e w1 ⟨rfl, hF⟩ H; clear hF)
  cases b with
  | true =>
   have HQ := hid (show max x (-99999) = q by rw [← HVP.out]; rfl)
   have hq : -9223372036854775808 ≤ q ∧ q ≤ 9223372036854775807 := by have := HQ.out; omega
   go_wp2_with (first | refine x_e (ev_max rfl rfl rfl HQ.out) ?_ | refine x_e (ev_strCat (s := d) (r := [101]) (q := d ++ [101]) rfl rfl rfl (hid rfl) (by simp only [List.length_cons, List.length_nil]; omega)) ?_ | refine x_q H ?_ | refine x_cm (fun h => ?_) (fun h => ?_) | refine x_l H ?_ | refine x_e (ev_strLen rfl rfl) ?_ | (revert H; refine x_g ?_; (first | (have hh := g3; clear hh; intro g4 w1 hg hf H) | (have hh := g2; clear hh; intro g3 w1 hg hf H) | (have hh := g1; clear hh; intro g2 w1 hg hf H) | (have hh := g0; clear hh; intro g1 w1 hg hf H) | intro g0 w1 hg hf H); (first | replace hf := hf.kp | clear hf)) | (revert H; refine x_s ?_; intro w1 hf H; (first | replace hf := hf.kp | clear hf)) | (revert H; refine x_sF ?_; intro w1 hf H hk; clear hf hk))
   (refine x_c H (itoaZ_any q hq _ (HT.out.fr H.fr) HFQ) ?_; clear H; rintro e w1 ⟨rfl, hF⟩ H; clear hF)
   go_wp2_with (first | refine x_e (ev_strCat (s := d ++ [101]) (r := fq) rfl rfl rfl HC2 (by simp only [List.length_append, List.length_cons, List.length_nil]; omega)) ?_ | refine x_q H ?_ | refine x_cm (fun h => ?_) (fun h => ?_) | refine x_l H ?_ | refine x_e (ev_strLen rfl rfl) ?_ | (revert H; refine x_g ?_; (first | (have hh := g3; clear hh; intro g4 w1 hg hf H) | (have hh := g2; clear hh; intro g3 w1 hg hf H) | (have hh := g1; clear hh; intro g2 w1 hg hf H) | (have hh := g0; clear hh; intro g1 w1 hg hf H) | intro g0 w1 hg hf H); (first | replace hf := hf.kp | clear hf)) | (revert H; refine x_s ?_; intro w1 hf H; (first | replace hf := hf.kp | clear hf)) | (revert H; refine x_sF ?_; intro w1 hf H hk; clear hf hk))
   (refine x_c H (parseP_any _ t 0 (HT.out.fr H.fr) HP2) ?_; clear H; rintro e w1 ⟨rfl, hF⟩ H; clear hF)
   go_wp2_with (first | refine x_q H ?_ | refine x_cm (fun h => ?_) (fun h => ?_) | refine x_l H ?_ | refine x_e (ev_strLen rfl rfl) ?_ | (revert H; refine x_g ?_; (first | (have hh := g3; clear hh; intro g4 w1 hg hf H) | (have hh := g2; clear hh; intro g3 w1 hg hf H) | (have hh := g1; clear hh; intro g2 w1 hg hf H) | (have hh := g0; clear hh; intro g1 w1 hg hf H) | intro g0 w1 hg hf H); (first | replace hf := hf.kp | clear hf)) | (revert H; refine x_s ?_; intro w1 hf H; (first | replace hf := hf.kp | clear hf)) | (revert H; refine x_sF ?_; intro w1 hf H hk; clear hf hk))
   (refine x_c H (isFin_any _ hv64 HFI) ?_; clear H; rintro e w1 ⟨rfl, hF⟩ H; clear hF)
   go_wp2_with (first | refine x_q H ?_ | refine x_cm (fun h => ?_) (fun h => ?_) | refine x_l H ?_ | refine x_e (ev_strLen rfl rfl) ?_ | (revert H; refine x_g ?_; (first | (have hh := g3; clear hh; intro g4 w1 hg hf H) | (have hh := g2; clear hh; intro g3 w1 hg hf H) | (have hh := g1; clear hh; intro g2 w1 hg hf H) | (have hh := g0; clear hh; intro g1 w1 hg hf H) | intro g0 w1 hg hf H); (first | replace hf := hf.kp | clear hf)) | (revert H; refine x_s ?_; intro w1 hf H; (first | replace hf := hf.kp | clear hf)) | (revert H; refine x_sF ?_; intro w1 hf H hk; clear hf hk))
   go_ret2
   exact ⟨rfl, H.fr⟩
  | false =>
   have HQ := hid (show max (x - (p : Int)) (-99999) = q by rw [← HVP.out]; rfl)
   have hq : -9223372036854775808 ≤ q ∧ q ≤ 9223372036854775807 := by have := HQ.out; omega
   go_wp2_with (first | refine x_e (ev_max rfl rfl rfl HQ.out) ?_ | refine x_e (ev_strCat (s := d) (r := [101]) (q := d ++ [101]) rfl rfl rfl (hid rfl) (by simp only [List.length_cons, List.length_nil]; omega)) ?_ | refine x_q H ?_ | refine x_cm (fun h => ?_) (fun h => ?_) | refine x_l H ?_ | refine x_e (ev_strLen rfl rfl) ?_ | (revert H; refine x_g ?_; (first | (have hh := g3; clear hh; intro g4 w1 hg hf H) | (have hh := g2; clear hh; intro g3 w1 hg hf H) | (have hh := g1; clear hh; intro g2 w1 hg hf H) | (have hh := g0; clear hh; intro g1 w1 hg hf H) | intro g0 w1 hg hf H); (first | replace hf := hf.kp | clear hf)) | (revert H; refine x_s ?_; intro w1 hf H; (first | replace hf := hf.kp | clear hf)) | (revert H; refine x_sF ?_; intro w1 hf H hk; clear hf hk))
   (refine x_c H (itoaZ_any q hq _ (HT.out.fr H.fr) HFQ) ?_; clear H; rintro e w1 ⟨rfl, hF⟩ H; clear hF)
   go_wp2_with (first | refine x_e (ev_strCat (s := d ++ [101]) (r := fq) rfl rfl rfl HC2 (by simp only [List.length_append, List.length_cons, List.length_nil]; omega)) ?_ | refine x_q H ?_ | refine x_cm (fun h => ?_) (fun h => ?_) | refine x_l H ?_ | refine x_e (ev_strLen rfl rfl) ?_ | (revert H; refine x_g ?_; (first | (have hh := g3; clear hh; intro g4 w1 hg hf H) | (have hh := g2; clear hh; intro g3 w1 hg hf H) | (have hh := g1; clear hh; intro g2 w1 hg hf H) | (have hh := g0; clear hh; intro g1 w1 hg hf H) | intro g0 w1 hg hf H); (first | replace hf := hf.kp | clear hf)) | (revert H; refine x_s ?_; intro w1 hf H; (first | replace hf := hf.kp | clear hf)) | (revert H; refine x_sF ?_; intro w1 hf H hk; clear hf hk))
   (refine x_c H (parseP_any _ t 0 (HT.out.fr H.fr) HP2) ?_; clear H; rintro e w1 ⟨rfl, hF⟩ H; clear hF)
   go_wp2_with (first | refine x_q H ?_ | refine x_cm (fun h => ?_) (fun h => ?_) | refine x_l H ?_ | refine x_e (ev_strLen rfl rfl) ?_ | (revert H; refine x_g ?_; (first | (have hh := g3; clear hh; intro g4 w1 hg hf H) | (have hh := g2; clear hh; intro g3 w1 hg hf H) | (have hh := g1; clear hh; intro g2 w1 hg hf H) | (have hh := g0; clear hh; intro g1 w1 hg hf H) | intro g0 w1 hg hf H); (first | replace hf := hf.kp | clear hf)) | (revert H; refine x_s ?_; intro w1 hf H; (first | replace hf := hf.kp | clear hf)) | (revert H; refine x_sF ?_; intro w1 hf H hk; clear hf hk))
   (refine x_c H (isFin_any _ hv64 HFI) ?_; clear H; rintro e w1 ⟨rfl, hF⟩ H; clear hF)
   go_wp2_with (first | refine x_q H ?_ | refine x_cm (fun h => ?_) (fun h => ?_) | refine x_l H ?_ | refine x_e (ev_strLen rfl rfl) ?_ | (revert H; refine x_g ?_; (first | (have hh := g3; clear hh; intro g4 w1 hg hf H) | (have hh := g2; clear hh; intro g3 w1 hg hf H) | (have hh := g1; clear hh; intro g2 w1 hg hf H) | (have hh := g0; clear hh; intro g1 w1 hg hf H) | intro g0 w1 hg hf H); (first | replace hf := hf.kp | clear hf)) | (revert H; refine x_s ?_; intro w1 hf H; (first | replace hf := hf.kp | clear hf)) | (revert H; refine x_sF ?_; intro w1 hf H hk; clear hf hk))
   go_ret2
   exact ⟨rfl, H.fr⟩
 ·obtain ⟨k, rfl⟩ := Int.eq_ofNat_of_zero_le h0
  have hk : k < s.length := by have := hlt h0; omega
  have hds : s.take k = d := by rw [← hd]; unfold vDig; rw [hz, if_neg (by omega), Int.toNat_natCast]
  have hxs : (Lib.atoi (s.drop (k + 1))).getD 0 = x := by rw [← hx]; unfold vExp; rw [hz, if_neg (by omega), Int.toNat_natCast]
  have hao : Lib.atoi (s.drop (k + 1)) = some x := by
   unfold atOK at hat
   rw [hz, decide_eq_false (by omega), Bool.false_or, Bool.and_eq_true, Int.toNat_natCast, Option.isSome_iff_exists] at hat
   obtain ⟨⟨y, hy⟩, _⟩ := hat
   rw [hy] at hxs
   rw [hy, ← hxs]; rfl
  have HAO := hid hao
  have HR1 := hid (show s.take ((k : Int)).toNat = d by rw [Int.toNat_natCast, hds])
  have HR2 := hid (show s.drop ((k : Int) + 1).toNat = s.drop (k + 1) by rw [show ((k : Int) + 1).toNat = k + 1 by omega])
  have HZ := hid hz
  clear hz hlt hge h0 hd hx hxs hat hao hds
  go_enter Tryz.func70, Tryz.ntmps70
  go_wp2_with (first | refine x_q H ?_ | refine x_cm (fun h => ?_) (fun h => ?_) | refine x_l H ?_ | refine x_e (ev_strLen rfl rfl) ?_ | (revert H; refine x_g ?_; (first | (have hh := g3; clear hh; intro g4 w1 hg hf H) | (have hh := g2; clear hh; intro g3 w1 hg hf H) | (have hh := g1; clear hh; intro g2 w1 hg hf H) | (have hh := g0; clear hh; intro g1 w1 hg hf H) | intro g0 w1 hg hf H); (first | replace hf := hf.kp | clear hf)) | (revert H; refine x_s ?_; intro w1 hf H; (first | replace hf := hf.kp | clear hf)) | (revert H; refine x_sF ?_; intro w1 hf H hk; clear hf hk))
  (refine x_c H (parseP_any _ s 0 (HT.out.fr H.fr) HP1) ?_; clear H; rintro e w1 ⟨rfl, hF⟩ H; clear hF)
  go_wp2_with (first | refine x_q H ?_ | refine x_cm (fun h => ?_) (fun h => ?_) | refine x_l H ?_ | refine x_e (ev_strLen rfl rfl) ?_ | (revert H; refine x_g ?_; (first | (have hh := g3; clear hh; intro g4 w1 hg hf H) | (have hh := g2; clear hh; intro g3 w1 hg hf H) | (have hh := g1; clear hh; intro g2 w1 hg hf H) | (have hh := g0; clear hh; intro g1 w1 hg hf H) | intro g0 w1 hg hf H); (first | replace hf := hf.kp | clear hf)) | (revert H; refine x_s ?_; intro w1 hf H; (first | replace hf := hf.kp | clear hf)) | (revert H; refine x_sF ?_; intro w1 hf H hk; clear hf hk))
  (refine x_c H (indexAny_any _ s sE (by omega) (by decide) HASC.out (by decide) HZ) ?_; clear H; rintro e w1 ⟨rfl, hF⟩ H; clear hF)
  go_wp2_with (first | refine x_e (ev_strHead rfl rfl rfl HR1) ?_ | refine x_e (ev_strTail rfl rfl rfl HR2) ?_ | refine x_q H ?_ | refine x_cm (fun h => ?_) (fun h => ?_) | refine x_l H ?_ | refine x_e (ev_strLen rfl rfl) ?_ | (revert H; refine x_g ?_; (first | (have hh := g3; clear hh; intro g4 w1 hg hf H) | (have hh := g2; clear hh; intro g3 w1 hg hf H) | (have hh := g1; clear hh; intro g2 w1 hg hf H) | (have hh := g0; clear hh; intro g1 w1 hg hf H) | intro g0 w1 hg hf H); (first | replace hf := hf.kp | clear hf)) | (revert H; refine x_s ?_; intro w1 hf H; (first | replace hf := hf.kp | clear hf)) | (revert H; refine x_sF ?_; intro w1 hf H hk; clear hf hk))
  (refine x_c H (atoiS_any _ (s.drop (k + 1)) (by rw [List.length_drop]; omega) HAO) ?_; clear H; rintro e w1 ⟨rfl, hF⟩ H; clear hF)
  go_wp2_with (first | refine x_q H ?_ | refine x_cm (fun h => ?_) (fun h => ?_) | refine x_l H ?_ | refine x_e (ev_strLen rfl rfl) ?_ | (revert H; refine x_g ?_; (first | (have hh := g3; clear hh; intro g4 w1 hg hf H) | (have hh := g2; clear hh; intro g3 w1 hg hf H) | (have hh := g1; clear hh; intro g2 w1 hg hf H) | (have hh := g0; clear hh; intro g1 w1 hg hf H) | intro g0 w1 hg hf H); (first | replace hf := hf.kp | clear hf)) | (revert H; refine x_s ?_; intro w1 hf H; (first | replace hf := hf.kp | clear hf)) | (revert H; refine x_sF ?_; intro w1 hf H hk; clear hf hk))
  (refine x_c H (contains_any _ d HB) ?_; clear H; rintro e w1 ⟨rfl, hF⟩ H; clear hF)
  cases b with
  | true =>
   have HQ := hid (show max x (-99999) = q by rw [← HVP.out]; rfl)
   have hq : -9223372036854775808 ≤ q ∧ q ≤ 9223372036854775807 := by have := HQ.out; omega
   go_wp2_with (first | refine x_e (ev_max rfl rfl rfl HQ.out) ?_ | refine x_e (ev_strCat (s := d) (r := [101]) (q := d ++ [101]) rfl rfl rfl (hid rfl) (by simp only [List.length_cons, List.length_nil]; omega)) ?_ | refine x_q H ?_ | refine x_cm (fun h => ?_) (fun h => ?_) | refine x_l H ?_ | refine x_e (ev_strLen rfl rfl) ?_ | (revert H; refine x_g ?_; (first | (have hh := g3; clear hh; intro g4 w1 hg hf H) | (have hh := g2; clear hh; intro g3 w1 hg hf H) | (have hh := g1; clear hh; intro g2 w1 hg hf H) | (have hh := g0; clear hh; intro g1 w1 hg hf H) | intro g0 w1 hg hf H); (first | replace hf := hf.kp | clear hf)) | (revert H; refine x_s ?_; intro w1 hf H; (first | replace hf := hf.kp | clear hf)) | (revert H; refine x_sF ?_; intro w1 hf H hk; clear hf hk))
   (refine x_c H (itoaZ_any q hq _ (HT.out.fr H.fr) HFQ) ?_; clear H; rintro e w1 ⟨rfl, hF⟩ H; clear hF)
   go_wp2_with (first | refine x_e (ev_strCat (s := d ++ [101]) (r := fq) rfl rfl rfl HC2 (by simp only [List.length_append, List.length_cons, List.length_nil]; omega)) ?_ | refine x_q H ?_ | refine x_cm (fun h => ?_) (fun h => ?_) | refine x_l H ?_ | refine x_e (ev_strLen rfl rfl) ?_ | (revert H; refine x_g ?_; (first | (have hh := g3; clear hh; intro g4 w1 hg hf H) | (have hh := g2; clear hh; intro g3 w1 hg hf H) | (have hh := g1; clear hh; intro g2 w1 hg hf H) | (have hh := g0; clear hh; intro g1 w1 hg hf H) | intro g0 w1 hg hf H); (first | replace hf := hf.kp | clear hf)) | (revert H; refine x_s ?_; intro w1 hf H; (first | replace hf := hf.kp | clear hf)) | (revert H; refine x_sF ?_; intro w1 hf H hk; clear hf hk))
   (refine x_c H (parseP_any _ t 0 (HT.out.fr H.fr) HP2) ?_; clear H; rintro e w1 ⟨rfl, hF⟩ H; clear hF)
   go_wp2_with (first | refine x_q H ?_ | refine x_cm (fun h => ?_) (fun h => ?_) | refine x_l H ?_ | refine x_e (ev_strLen rfl rfl) ?_ | (revert H; refine x_g ?_; (first | (have hh := g3; clear hh; intro g4 w1 hg hf H) | (have hh := g2; clear hh; intro g3 w1 hg hf H) | (have hh := g1; clear hh; intro g2 w1 hg hf H) | (have hh := g0; clear hh; intro g1 w1 hg hf H) | intro g0 w1 hg hf H); (first | replace hf := hf.kp | clear hf)) | (revert H; refine x_s ?_; intro w1 hf H; (first | replace hf := hf.kp | clear hf)) | (revert H; refine x_sF ?_; intro w1 hf H hk; clear hf hk))
   (refine x_c H (isFin_any _ hv64 HFI) ?_; clear H; rintro e w1 ⟨rfl, hF⟩ H; clear hF)
   go_wp2_with (first | refine x_q H ?_ | refine x_cm (fun h => ?_) (fun h => ?_) | refine x_l H ?_ | refine x_e (ev_strLen rfl rfl) ?_ | (revert H; refine x_g ?_; (first | (have hh := g3; clear hh; intro g4 w1 hg hf H) | (have hh := g2; clear hh; intro g3 w1 hg hf H) | (have hh := g1; clear hh; intro g2 w1 hg hf H) | (have hh := g0; clear hh; intro g1 w1 hg hf H) | intro g0 w1 hg hf H); (first | replace hf := hf.kp | clear hf)) | (revert H; refine x_s ?_; intro w1 hf H; (first | replace hf := hf.kp | clear hf)) | (revert H; refine x_sF ?_; intro w1 hf H hk; clear hf hk))
   go_ret2
   exact ⟨rfl, H.fr⟩
  | false =>
   have HQ := hid (show max (x - (p : Int)) (-99999) = q by rw [← HVP.out]; rfl)
   have hq : -9223372036854775808 ≤ q ∧ q ≤ 9223372036854775807 := by have := HQ.out; omega
   go_wp2_with (first | refine x_e (ev_max rfl rfl rfl HQ.out) ?_ | refine x_e (ev_strCat (s := d) (r := [101]) (q := d ++ [101]) rfl rfl rfl (hid rfl) (by simp only [List.length_cons, List.length_nil]; omega)) ?_ | refine x_q H ?_ | refine x_cm (fun h => ?_) (fun h => ?_) | refine x_l H ?_ | refine x_e (ev_strLen rfl rfl) ?_ | (revert H; refine x_g ?_; (first | (have hh := g3; clear hh; intro g4 w1 hg hf H) | (have hh := g2; clear hh; intro g3 w1 hg hf H) | (have hh := g1; clear hh; intro g2 w1 hg hf H) | (have hh := g0; clear hh; intro g1 w1 hg hf H) | intro g0 w1 hg hf H); (first | replace hf := hf.kp | clear hf)) | (revert H; refine x_s ?_; intro w1 hf H; (first | replace hf := hf.kp | clear hf)) | (revert H; refine x_sF ?_; intro w1 hf H hk; clear hf hk))
   (refine x_c H (itoaZ_any q hq _ (HT.out.fr H.fr) HFQ) ?_; clear H; rintro e w1 ⟨rfl, hF⟩ H; clear hF)
   go_wp2_with (first | refine x_e (ev_strCat (s := d ++ [101]) (r := fq) rfl rfl rfl HC2 (by simp only [List.length_append, List.length_cons, List.length_nil]; omega)) ?_ | refine x_q H ?_ | refine x_cm (fun h => ?_) (fun h => ?_) | refine x_l H ?_ | refine x_e (ev_strLen rfl rfl) ?_ | (revert H; refine x_g ?_; (first | (have hh := g3; clear hh; intro g4 w1 hg hf H) | (have hh := g2; clear hh; intro g3 w1 hg hf H) | (have hh := g1; clear hh; intro g2 w1 hg hf H) | (have hh := g0; clear hh; intro g1 w1 hg hf H) | intro g0 w1 hg hf H); (first | replace hf := hf.kp | clear hf)) | (revert H; refine x_s ?_; intro w1 hf H; (first | replace hf := hf.kp | clear hf)) | (revert H; refine x_sF ?_; intro w1 hf H hk; clear hf hk))
   (refine x_c H (parseP_any _ t 0 (HT.out.fr H.fr) HP2) ?_; clear H; rintro e w1 ⟨rfl, hF⟩ H; clear hF)
   go_wp2_with (first | refine x_q H ?_ | refine x_cm (fun h => ?_) (fun h => ?_) | refine x_l H ?_ | refine x_e (ev_strLen rfl rfl) ?_ | (revert H; refine x_g ?_; (first | (have hh := g3; clear hh; intro g4 w1 hg hf H) | (have hh := g2; clear hh; intro g3 w1 hg hf H) | (have hh := g1; clear hh; intro g2 w1 hg hf H) | (have hh := g0; clear hh; intro g1 w1 hg hf H) | intro g0 w1 hg hf H); (first | replace hf := hf.kp | clear hf)) | (revert H; refine x_s ?_; intro w1 hf H; (first | replace hf := hf.kp | clear hf)) | (revert H; refine x_sF ?_; intro w1 hf H hk; clear hf hk))
   (refine x_c H (isFin_any _ hv64 HFI) ?_; clear H; rintro e w1 ⟨rfl, hF⟩ H; clear hF)
   go_wp2_with (first | refine x_q H ?_ | refine x_cm (fun h => ?_) (fun h => ?_) | refine x_l H ?_ | refine x_e (ev_strLen rfl rfl) ?_ | (revert H; refine x_g ?_; (first | (have hh := g3; clear hh; intro g4 w1 hg hf H) | (have hh := g2; clear hh; intro g3 w1 hg hf H) | (have hh := g1; clear hh; intro g2 w1 hg hf H) | (have hh := g0; clear hh; intro g1 w1 hg hf H) | intro g0 w1 hg hf H); (first | replace hf := hf.kp | clear hf)) | (revert H; refine x_s ?_; intro w1 hf H; (first | replace hf := hf.kp | clear hf)) | (revert H; refine x_sF ?_; intro w1 hf H hk; clear hf hk))
   go_ret2
   exact ⟨rfl, H.fr⟩
end Go.Proofs.YtbiohhmpclnpgaaGreatDoor
