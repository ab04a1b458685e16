import Derived.Test.YtbiohhmpclnpgaaGreatDoorXNb4
import Derived.Test.YtbiohhmpclnpgaaGreatDoorXNc6
import Derived.Test.YtbiohhmpclnpgaaGreatDoorXIz13
namespace Go.Proofs.YtbiohhmpclnpgaaGreatDoor
set_option linter.unusedSimpArgs false
set_option linter.unusedVariables false
structure OneOK (f x : List UInt8) (lay : Lay) (v : Nat) : Prop where
 nf : f.length ≤ 1000
 af : asc f = true
 nx : x.length ≤ 18
 ax : asc x = true
 lines : mlines (oneB f x) = [sTitle, bL1, bL2, bL3 f, bL4, bL5, x]
 fmt_ : decP (blank (f.take 20)) = some lay
 val : valueP lay (blank (part 0 lay.width x)) = some v
 at_ : atOK (blank (part 0 lay.width x)) = true
theorem asc_bL3 {f : List UInt8} (h : asc f = true) : asc (bL3 f) = true := by
 unfold asc at *
 unfold bL3
 rw [List.all_append, h, Bool.and_true]
 decide
theorem len_bL3 {f : List UInt8} (h : f.length ≤ 1000) : (bL3 f).length ≤ 100000 := by
 unfold bL3
 rw [List.length_append]
 have : (padR 16 [40, 50, 73, 52, 41] ++ padR 16 [40, 73, 52, 41]).length = 32 := by decide
 omega
theorem head_ok {f : List UInt8} (hf : f.length ≤ 1000) (ha : asc f = true) {o : Option Lay} (ho : decP (blank (f.take 20)) = o) : HeadOK bL1 bL2 (bL3 f) o :=
 ⟨by decide, by decide, len_bL3 hf, asc_bL3 ha, cards_one, kind_one, sizes_one, by rw [bL3_a]; exact whole_a, by rw [bL3_b]; exact whole_b, by rw [bL3_c]; exact ho⟩
theorem body_ok {f x : List UInt8} {lay : Lay} {v : Nat} (h : OneOK f x lay v) : BodyOK sTitle bL4 bL5 x lay sTitle v := by
 obtain ⟨i1, i2, i3⟩ := ints_one
 obtain ⟨t1, t2⟩ := title_one
 refine ⟨by decide, by decide, by decide, by have := h.nx; omega, ?_, ?_, ?_, dec_sound h.fmt_, value_fin h.val, t1, t2⟩
 ·intro k u hk
  rcases k with _ | _ | k
  ·obtain rfl : 1 = u := by simpa using hk
   exact ⟨i1, by decide⟩
  ·obtain rfl : 2 = u := by simpa using hk
   exact ⟨i2, by decide⟩
  ·exact absurd hk (by simp)
 ·intro k u hk
  rcases k with _ | k
  ·obtain rfl : 1 = u := by simpa using hk
   exact ⟨i3, by decide⟩
  ·exact absurd hk (by simp)
 ·intro k u hk
  rcases k with _ | k
  ·obtain rfl : v = u := by simpa using hk
   rw [Nat.zero_mul, Nat.zero_add]
   exact ⟨Nat.le_trans (blank_len _) (Nat.le_trans (part_len _ _ _) h.nx), asc_blank (asc_part h.ax _ _), h.at_, h.val⟩
  ·exact absurd hk (by simp)
theorem one_len {f x : List UInt8} (hf : f.length ≤ 1000) (hx : x.length ≤ 18) : (oneB f x).length ≤ 100000 := by
 unfold oneB
 have h1 : bL1.length = 70 := by decide
 have h2 : bL2.length = 70 := by decide
 have h3 := len_bL3 hf
 have h3' : (bL3 f).length ≤ 2000 := by
  unfold bL3
  rw [List.length_append]
  have : (padR 16 [40, 50, 73, 52, 41] ++ padR 16 [40, 73, 52, 41]).length = 32 := by decide
  omega
 have h4 : bL4.length = 8 := by decide
 have h5 : bL5.length = 4 := by decide
 have h6 : sTitle.length = 5 := by decide
 simp only [List.length_append, List.length_cons, List.length_nil]
 omega
theorem good_more : (goodF.all fun f => asc f && decide (f.length ≤ 1000) && match decP (blank (f.take 20)) with
  | some l => atOK (blank (part 0 l.width v15))
  | none => false) = true := by decide +kernel
theorem bad_more : (badF.all fun f => asc f && decide (f.length ≤ 1000)) = true := by decide +kernel
theorem formats_one {f : List UInt8} (h : f ∈ goodF) : ∃ lay, OneOK f v15 lay 4609434218613702656 := by
 have h1 := List.all_eq_true.1 good_all f h
 have h2 := List.all_eq_true.1 good_more f h
 cases hl : decP (blank (f.take 20)) with
 | none => rw [hl] at h1; simp at h1
 | some l =>
  rw [hl] at h1 h2
  simp only [Bool.and_eq_true, decide_eq_true_eq] at h1 h2
  exact ⟨l, h2.1.2, h2.1.1, by decide, by decide, lines_one h1.1.2 h1.2 (by decide) (by decide), hl, h1.1.1, h2.2⟩
theorem awake_one : OneOK [40, 51, 70, 54, 46, 50, 41] v125 ⟨3, 6, 2, 0⟩ 4608308318706860032 :=
 ⟨by decide, by decide, by decide, by decide, lines_one (by decide) (by decide) (by decide) (by decide), awake_lay, awake_val, by decide +kernel⟩
theorem pt_more : ((List.range 6).all fun s => (List.range 8).all fun d => asc (ptFmt s d) && decide ((ptFmt s d).length ≤ 1000)) = true := by decide +kernel
theorem pt_at {n : Nat} (point power : Bool) : atOK (ptF point power n) = true := by
 have hno : ∀ b ∈ dec n ++ (if point then [46] else []), b ∉ sE := by
  intro b hb
  rcases List.mem_append.1 hb with hb | hb
  ·exact (dig_ne (dec_dig hb)).2.2.1
  ·cases point
   ·simp at hb
   ·simp at hb; rw [hb]; decide
 unfold atOK
 cases power
 ·have hix : Lib.indexAny (ptF point false n) sE = -1 := by
   unfold ptF
   rw [← List.append_assoc]
   simp only [if_false, Bool.false_eq_true, List.append_nil]
   exact indexAny_none hno
  rw [hix]; rfl
 ·have hix : Lib.indexAny (ptF point true n) sE = ((dec n ++ (if point then [46] else [])).length : Int) := by
   unfold ptF
   rw [← List.append_assoc]
   simp only [if_true]
   exact indexAny_at (by decide) _ hno
  have hdr : (ptF point true n).drop ((Lib.indexAny (ptF point true n) sE).toNat + 1) = [50] := by
   rw [hix, Int.toNat_natCast]
   unfold ptF
   rw [← List.append_assoc, List.drop_append, List.drop_of_length_le (by omega), List.nil_append]
   rw [show ∀ k : Nat, k + 1 - k = 1 from fun k => by omega]
   rfl
  rw [hdr]
  have : Lib.atoi [50] = some 2 := by decide
  rw [this]
  simp
theorem points_one {n d s : Nat} (point power : Bool) (hn : n < 100000) (hd : d < 8) (hs : s < 6) :
  ∃ lay v, OneOK (ptFmt s d) (32 :: 32 :: ptF point power n) lay v ∧ dpz 1024 (dec n ++ 101 :: fmt (ptX d s point power)) 0 = (v, 0) := by
 obtain ⟨a1, a2, a3⟩ := pt_lay hs hd
 have hl := dec_five hn
 obtain ⟨b1, b2, b3⟩ := pt_field (n := n) point power hl
 have h := pt_more
 rw [List.all_eq_true] at h
 have h1 := h s (List.mem_range.2 hs)
 rw [List.all_eq_true] at h1
 have h2 := h1 d (List.mem_range.2 hd)
 simp only [Bool.and_eq_true, decide_eq_true_eq] at h2
 have hlen : (ptF point power n).length ≤ 8 := by
  unfold ptF
  rw [List.length_append, List.length_append]
  cases point <;> cases power <;> simp <;> omega
 refine ⟨⟨2, 20, d, s⟩, _, ⟨h2.2, h2.1, by simp only [List.length_cons]; omega, ?_, lines_one a2 a3 b2 b3, a1, ?_, ?_⟩, pt_want point power hd hs hl⟩
 ·have hdg : ∀ b ∈ dec n, b.toNat < 128 := fun b hb => by have := dig_le (dec_dig hb); omega
  unfold asc
  rw [List.all_eq_true]
  intro b hb
  simp only [List.mem_cons] at hb
  rcases hb with rfl | rfl | hb
  ·decide
  ·decide
  ·unfold ptF at hb
   rcases List.mem_append.1 hb with hb | hb
   ·simpa using hdg b hb
   ·cases point <;> cases power <;> simp at hb
    ·rcases hb with rfl | rfl <;> decide
    ·subst hb; decide
    ·rcases hb with rfl | rfl | rfl <;> decide
 ·have e := pt_value point power hd hs hn hl
  rw [← b1] at e
  exact e
 ·have e := pt_at (n := n) point power
  rw [← b1] at e
  exact e
end Go.Proofs.YtbiohhmpclnpgaaGreatDoor
namespace Go.Proofs.YtbiohhmpclnpgaaGreatDoor
open Go.RowKit
set_option linter.unusedSimpArgs false
set_option linter.unusedVariables false
set_option maxHeartbeats 8000000
set_option maxRecDepth 100000
attribute [local irreducible] wpList Code.wp Plan.wp
def sLen : Value → Nat
 | .string b => b.size
 | _ => 0
theorem sLen_str (l : List UInt8) : sLen (strV l) = l.length := by unfold strV sLen; exact ba_size l
theorem lcount_any (w : World) (x : Nat) (hx : x ≤ 9) (hT : La w) {l : List UInt8} (hl : Hid (padL [UInt8.ofNat (48 + x)] = l)) : Calls Tryz.prog 33 #[.int .i64 (x : Int)] w fun e w' => e = .returned (strV l) ∧ Fr [] w w' := by
 have HT := hid hT
 have HF := hid (show fmt (x : Int) = [UInt8.ofNat (48 + x)] by unfold fmt; rw [if_neg (by omega), Int.natAbs_natCast]; exact dec_small (by omega))
 obtain ⟨r, hr⟩ : ∃ r, [UInt8.ofNat (48 + x)] = r := ⟨_, rfl⟩
 have hrl : r.length = 1 := by rw [← hr]; rfl
 rw [hr] at HF hl
 clear hT hr
 have H := Hp.start [] w
 go_enter Tryz.func33, Tryz.ntmps33
 go_wp2_with (first | refine x_q H ?_ | refine x_cm (fun h => ?_) (fun h => ?_) | refine x_e (ev_strLen rfl rfl) ?_)
 (refine x_c H (itoaZ_any _ (by omega) _ (HT.out.fr H.fr) HF) ?_; clear H; rintro e w1 ⟨rfl, hF⟩ H; clear hF)
 go_wp2_with (first | refine x_q H ?_ | refine x_cm (fun h => ?_) (fun h => ?_) | refine x_e (ev_strLen rfl rfl) ?_)
 go_loopw [3] (fun s3 wr => ∃ (k : Nat) (u : List UInt8), s3 = strV u ∧ k ≤ 13 ∧ u.length = k + 1 ∧ Hid (u = List.replicate k 32 ++ r) ∧ Hp [] w wr []) (fun v _ => 14 - sLen v)
 case atStart => exact ⟨0, r, rfl, by omega, hrl, hid rfl, H⟩
 case round =>
  clear H
  obtain ⟨k, u, rfl, hk, hul, HU, H⟩ := hrel
  by_cases hlt : k < 13
  ·obtain ⟨t, ht⟩ : ∃ t, [32] ++ u = t := ⟨_, rfl⟩
   have HQ := hid ht
   have HN := hid (show t = List.replicate (k + 1) 32 ++ r by rw [← ht, HU.out]; rfl)
   have htl : t.length = k + 2 := by rw [← ht, List.length_append, hul]; simp only [List.length_cons, List.length_nil]; omega
   clear ht
   go_wp2_with (first | refine x_q H ?_ | refine x_cm (fun h => ?_) (fun h => ?_) | refine x_e (ev_strLen rfl rfl) ?_ | refine x_e (ev_strCat (s := [32]) rfl rfl rfl HQ (by simp only [List.length_cons, List.length_nil]; omega)) ?_)
   go_roundw
   case rel => exact ⟨k + 1, t, rfl, by omega, htl, HN, H⟩
   case measure => (rw [sLen_str, sLen_str]; omega)
  ·obtain rfl : k = 13 := by omega
   have HE := hid (show u = l by rw [HU.out, ← hl.out]; unfold padL; rw [hrl])
   go_wp2_with (first | refine x_q H ?_ | refine x_cm (fun h => ?_) (fun h => ?_) | refine x_e (ev_strLen rfl rfl) ?_)
   go_ret
   exact ⟨by rw [HE.out]; rfl, H.fr⟩
theorem lpad_any (w : World) (s : List UInt8) (n : Nat) (hs : s.length ≤ n) (hn : n ≤ 1000) {l : List UInt8} (hl : Hid (padR n s = l)) : Calls Tryz.prog 34 #[strV s, .int .i64 (n : Int)] w fun e w' => e = .returned (strV l) ∧ Fr [] w w' := by
 have H := Hp.start [] w
 go_enter Tryz.func34, Tryz.ntmps34
 go_wp2_with (first | refine x_q H ?_ | refine x_cm (fun h => ?_) (fun h => ?_) | refine x_e (ev_strLen rfl rfl) ?_)
 go_loopw [0] (fun s0 wr => ∃ (k : Nat) (u : List UInt8), s0 = strV u ∧ s.length + k ≤ n ∧ u.length = s.length + k ∧ Hid (u = s ++ List.replicate k 32) ∧ Hp [] w wr []) (fun v _ => n - sLen v)
 case atStart => exact ⟨0, s, rfl, by omega, rfl, hid (by simp), H⟩
 case round =>
  clear H
  obtain ⟨k, u, rfl, hk, hul, HU, H⟩ := hrel
  by_cases hlt : s.length + k < n
  ·obtain ⟨t, ht⟩ : ∃ t, u ++ [32] = t := ⟨_, rfl⟩
   have HQ := hid ht
   have HN := hid (show t = s ++ List.replicate (k + 1) 32 by rw [← ht, HU.out, List.append_assoc, ← List.replicate_succ'])
   have htl : t.length = s.length + k + 1 := by rw [← ht, List.length_append, hul]; simp only [List.length_cons, List.length_nil]
   clear ht
   go_wp2_with (first | refine x_q H ?_ | refine x_cm (fun h => ?_) (fun h => ?_) | refine x_e (ev_strLen rfl rfl) ?_ | refine x_e (ev_strCat (s := u) (r := [32]) rfl rfl rfl HQ (by simp only [List.length_cons, List.length_nil]; omega)) ?_)
   go_roundw
   case rel => exact ⟨k + 1, t, rfl, by omega, by omega, HN, H⟩
   case measure => (rw [sLen_str, sLen_str]; omega)
  ·have hk2 : k = n - s.length := by omega
   have HE := hid (show u = l by rw [HU.out, ← hl.out, hk2]; rfl)
   clear hk2
   go_wp2_with (first | refine x_q H ?_ | refine x_cm (fun h => ?_) (fun h => ?_) | refine x_e (ev_strLen rfl rfl) ?_)
   go_ret
   exact ⟨by rw [HE.out]; rfl, H.fr⟩
theorem one_any (w : World) (f x : List UInt8) (hf : f.length ≤ 1000) (hx : x.length ≤ 1000) (hT : La w) : Calls Tryz.prog 9 #[strV f, strV x] w fun e w' => ∃ p c, e = .returned (.slice p (oneB f x).length c) ∧ Fr [] w w' ∧ Rd w' (.slice p (oneB f x).length c) (oneB f x).length (bytesV (oneB f x)) := by
 have HT := hid hT
 clear hT
 obtain ⟨c3, h3⟩ : ∃ c, padL [UInt8.ofNat (48 + 3)] = c := ⟨_, rfl⟩
 obtain ⟨c1, h1⟩ : ∃ c, padL [UInt8.ofNat (48 + 1)] = c := ⟨_, rfl⟩
 obtain ⟨c0, h0⟩ : ∃ c, padL [UInt8.ofNat (48 + 0)] = c := ⟨_, rfl⟩
 obtain ⟨a, ha⟩ : ∃ c, padR 14 [82, 85, 65] = c := ⟨_, rfl⟩
 obtain ⟨b, hb⟩ : ∃ c, padR 16 [40, 50, 73, 52, 41] = c := ⟨_, rfl⟩
 obtain ⟨d, hd⟩ : ∃ c, padR 16 [40, 73, 52, 41] = c := ⟨_, rfl⟩
 have e3 : c3.length ≤ 20 := by rw [← h3]; decide
 have e1 : c1.length ≤ 20 := by rw [← h1]; decide
 have e0 : c0.length ≤ 20 := by rw [← h0]; decide
 have ea : a.length ≤ 20 := by rw [← ha]; decide
 have eb : b.length ≤ 20 := by rw [← hb]; decide
 have ed : d.length ≤ 20 := by rw [← hd]; decide
 obtain ⟨t1, q1⟩ : ∃ t, [116, 105, 116, 108, 101, 10] ++ c3 = t := ⟨_, rfl⟩; have l1 : t1.length ≤ 26 := by (rw [← q1, List.length_append]; (try simp only [List.length_cons, List.length_nil]); omega)
 obtain ⟨t2, q2⟩ : ∃ t, t1 ++ c1 = t := ⟨_, rfl⟩; have l2 : t2.length ≤ 46 := by (rw [← q2, List.length_append]; (try simp only [List.length_cons, List.length_nil]); omega)
 obtain ⟨t3, q3⟩ : ∃ t, t2 ++ c1 = t := ⟨_, rfl⟩; have l3 : t3.length ≤ 66 := by (rw [← q3, List.length_append]; (try simp only [List.length_cons, List.length_nil]); omega)
 obtain ⟨t4, q4⟩ : ∃ t, t3 ++ c1 = t := ⟨_, rfl⟩; have l4 : t4.length ≤ 86 := by (rw [← q4, List.length_append]; (try simp only [List.length_cons, List.length_nil]); omega)
 obtain ⟨t5, q5⟩ : ∃ t, t4 ++ c0 = t := ⟨_, rfl⟩; have l5 : t5.length ≤ 106 := by (rw [← q5, List.length_append]; (try simp only [List.length_cons, List.length_nil]); omega)
 obtain ⟨t6, q6⟩ : ∃ t, t5 ++ [10] = t := ⟨_, rfl⟩; have l6 : t6.length ≤ 107 := by (rw [← q6, List.length_append]; (try simp only [List.length_cons, List.length_nil]); omega)
 obtain ⟨t7, q7⟩ : ∃ t, t6 ++ a = t := ⟨_, rfl⟩; have l7 : t7.length ≤ 127 := by (rw [← q7, List.length_append]; (try simp only [List.length_cons, List.length_nil]); omega)
 obtain ⟨t8, q8⟩ : ∃ t, t7 ++ c1 = t := ⟨_, rfl⟩; have l8 : t8.length ≤ 147 := by (rw [← q8, List.length_append]; (try simp only [List.length_cons, List.length_nil]); omega)
 obtain ⟨t9, q9⟩ : ∃ t, t8 ++ c1 = t := ⟨_, rfl⟩; have l9 : t9.length ≤ 167 := by (rw [← q9, List.length_append]; (try simp only [List.length_cons, List.length_nil]); omega)
 obtain ⟨t10, q10⟩ : ∃ t, t9 ++ c1 = t := ⟨_, rfl⟩; have l10 : t10.length ≤ 187 := by (rw [← q10, List.length_append]; (try simp only [List.length_cons, List.length_nil]); omega)
 obtain ⟨t11, q11⟩ : ∃ t, t10 ++ c0 = t := ⟨_, rfl⟩; have l11 : t11.length ≤ 207 := by (rw [← q11, List.length_append]; (try simp only [List.length_cons, List.length_nil]); omega)
 obtain ⟨t12, q12⟩ : ∃ t, t11 ++ [10] = t := ⟨_, rfl⟩; have l12 : t12.length ≤ 208 := by (rw [← q12, List.length_append]; (try simp only [List.length_cons, List.length_nil]); omega)
 obtain ⟨t13, q13⟩ : ∃ t, t12 ++ b = t := ⟨_, rfl⟩; have l13 : t13.length ≤ 228 := by (rw [← q13, List.length_append]; (try simp only [List.length_cons, List.length_nil]); omega)
 obtain ⟨t14, q14⟩ : ∃ t, t13 ++ d = t := ⟨_, rfl⟩; have l14 : t14.length ≤ 248 := by (rw [← q14, List.length_append]; (try simp only [List.length_cons, List.length_nil]); omega)
 obtain ⟨t15, q15⟩ : ∃ t, t14 ++ f = t := ⟨_, rfl⟩; have l15 : t15.length ≤ 1248 := by (rw [← q15, List.length_append]; (try simp only [List.length_cons, List.length_nil]); omega)
 obtain ⟨t16, q16⟩ : ∃ t, t15 ++ [10, 32, 32, 32, 49, 32, 32, 32, 50, 10, 32, 32, 32, 49, 10] = t := ⟨_, rfl⟩; have l16 : t16.length ≤ 1268 := by (rw [← q16, List.length_append]; (try simp only [List.length_cons, List.length_nil]); omega)
 obtain ⟨t17, q17⟩ : ∃ t, t16 ++ x = t := ⟨_, rfl⟩; have l17 : t17.length ≤ 2268 := by (rw [← q17, List.length_append]; (try simp only [List.length_cons, List.length_nil]); omega)
 obtain ⟨t18, q18⟩ : ∃ t, t17 ++ [10] = t := ⟨_, rfl⟩; have l18 : t18.length ≤ 2269 := by (rw [← q18, List.length_append]; (try simp only [List.length_cons, List.length_nil]); omega)
 have HS : Hid (t18 = oneB f x) := hid (by
  rw [← q18, ← q17, ← q16, ← q15, ← q14, ← q13, ← q12, ← q11, ← q10, ← q9, ← q8, ← q7, ← q6, ← q5, ← q4, ← q3, ← q2, ← q1, ← h3, ← h1, ← h0, ← ha, ← hb, ← hd]
  unfold oneB bL1 bL2 bL3 bL4 bL5 sTitle sRUA
  simp only [List.append_assoc, List.cons_append, List.nil_append]
  rfl)
 have C3 := hid h3; have C1 := hid h1; have C0 := hid h0; have CA := hid ha; have CB := hid hb; have CD := hid hd
 have Q1 := hid q1; have Q2 := hid q2; have Q3 := hid q3; have Q4 := hid q4; have Q5 := hid q5; have Q6 := hid q6; have Q7 := hid q7; have Q8 := hid q8; have Q9 := hid q9; have Q10 := hid q10; have Q11 := hid q11; have Q12 := hid q12; have Q13 := hid q13; have Q14 := hid q14; have Q15 := hid q15; have Q16 := hid q16; have Q17 := hid q17; have Q18 := hid q18
 clear h3 h1 h0 ha hb hd q1 q2 q3 q4 q5 q6 q7 q8 q9 q10 q11 q12 q13 q14 q15 q16 q17 q18
 have H := Hp.start [] w
 go_enter Tryz.func9, Tryz.ntmps9
 go_wp2_with (first | refine x_e (ev_strCat rfl rfl rfl (by assumption) (by (try simp only [List.length_cons, List.length_nil]); omega)) ?_ | (revert H; intro H; refine wl_rw rfl (fun K hK => c_sbM H rfl (s := t18) rfl Tryz.underlying37 Tryz.underlying5 9 (fun g w1 cap hf H1 => hK _ _ ?_)); clear hK K; clear H; have H := H1; clear H1; clear hf; (simp only [nrm, ↓reduceIte, Nat.reduceAdd])))
 (refine x_c H (lcount_any _ 3 (by decide) (HT.out.fr H.fr) C3) ?_; clear H; rintro e w1 ⟨rfl, hF⟩ H; clear hF)
 go_wp2_with (first | refine x_e (ev_strCat rfl rfl rfl (by assumption) (by (try simp only [List.length_cons, List.length_nil]); omega)) ?_ | (revert H; intro H; refine wl_rw rfl (fun K hK => c_sbM H rfl (s := t18) rfl Tryz.underlying37 Tryz.underlying5 9 (fun g w1 cap hf H1 => hK _ _ ?_)); clear hK K; clear H; have H := H1; clear H1; clear hf; (simp only [nrm, ↓reduceIte, Nat.reduceAdd])))
 (refine x_c H (lcount_any _ 1 (by decide) (HT.out.fr H.fr) C1) ?_; clear H; rintro e w1 ⟨rfl, hF⟩ H; clear hF)
 go_wp2_with (first | refine x_e (ev_strCat rfl rfl rfl (by assumption) (by (try simp only [List.length_cons, List.length_nil]); omega)) ?_ | (revert H; intro H; refine wl_rw rfl (fun K hK => c_sbM H rfl (s := t18) rfl Tryz.underlying37 Tryz.underlying5 9 (fun g w1 cap hf H1 => hK _ _ ?_)); clear hK K; clear H; have H := H1; clear H1; clear hf; (simp only [nrm, ↓reduceIte, Nat.reduceAdd])))
 (refine x_c H (lcount_any _ 1 (by decide) (HT.out.fr H.fr) C1) ?_; clear H; rintro e w1 ⟨rfl, hF⟩ H; clear hF)
 go_wp2_with (first | refine x_e (ev_strCat rfl rfl rfl (by assumption) (by (try simp only [List.length_cons, List.length_nil]); omega)) ?_ | (revert H; intro H; refine wl_rw rfl (fun K hK => c_sbM H rfl (s := t18) rfl Tryz.underlying37 Tryz.underlying5 9 (fun g w1 cap hf H1 => hK _ _ ?_)); clear hK K; clear H; have H := H1; clear H1; clear hf; (simp only [nrm, ↓reduceIte, Nat.reduceAdd])))
 (refine x_c H (lcount_any _ 1 (by decide) (HT.out.fr H.fr) C1) ?_; clear H; rintro e w1 ⟨rfl, hF⟩ H; clear hF)
 go_wp2_with (first | refine x_e (ev_strCat rfl rfl rfl (by assumption) (by (try simp only [List.length_cons, List.length_nil]); omega)) ?_ | (revert H; intro H; refine wl_rw rfl (fun K hK => c_sbM H rfl (s := t18) rfl Tryz.underlying37 Tryz.underlying5 9 (fun g w1 cap hf H1 => hK _ _ ?_)); clear hK K; clear H; have H := H1; clear H1; clear hf; (simp only [nrm, ↓reduceIte, Nat.reduceAdd])))
 (refine x_c H (lcount_any _ 0 (by decide) (HT.out.fr H.fr) C0) ?_; clear H; rintro e w1 ⟨rfl, hF⟩ H; clear hF)
 go_wp2_with (first | refine x_e (ev_strCat rfl rfl rfl (by assumption) (by (try simp only [List.length_cons, List.length_nil]); omega)) ?_ | (revert H; intro H; refine wl_rw rfl (fun K hK => c_sbM H rfl (s := t18) rfl Tryz.underlying37 Tryz.underlying5 9 (fun g w1 cap hf H1 => hK _ _ ?_)); clear hK K; clear H; have H := H1; clear H1; clear hf; (simp only [nrm, ↓reduceIte, Nat.reduceAdd])))
 (refine x_c H (lpad_any _ [82, 85, 65] 14 (by decide) (by decide) CA) ?_; clear H; rintro e w1 ⟨rfl, hF⟩ H; clear hF)
 go_wp2_with (first | refine x_e (ev_strCat rfl rfl rfl (by assumption) (by (try simp only [List.length_cons, List.length_nil]); omega)) ?_ | (revert H; intro H; refine wl_rw rfl (fun K hK => c_sbM H rfl (s := t18) rfl Tryz.underlying37 Tryz.underlying5 9 (fun g w1 cap hf H1 => hK _ _ ?_)); clear hK K; clear H; have H := H1; clear H1; clear hf; (simp only [nrm, ↓reduceIte, Nat.reduceAdd])))
 (refine x_c H (lcount_any _ 1 (by decide) (HT.out.fr H.fr) C1) ?_; clear H; rintro e w1 ⟨rfl, hF⟩ H; clear hF)
 go_wp2_with (first | refine x_e (ev_strCat rfl rfl rfl (by assumption) (by (try simp only [List.length_cons, List.length_nil]); omega)) ?_ | (revert H; intro H; refine wl_rw rfl (fun K hK => c_sbM H rfl (s := t18) rfl Tryz.underlying37 Tryz.underlying5 9 (fun g w1 cap hf H1 => hK _ _ ?_)); clear hK K; clear H; have H := H1; clear H1; clear hf; (simp only [nrm, ↓reduceIte, Nat.reduceAdd])))
 (refine x_c H (lcount_any _ 1 (by decide) (HT.out.fr H.fr) C1) ?_; clear H; rintro e w1 ⟨rfl, hF⟩ H; clear hF)
 go_wp2_with (first | refine x_e (ev_strCat rfl rfl rfl (by assumption) (by (try simp only [List.length_cons, List.length_nil]); omega)) ?_ | (revert H; intro H; refine wl_rw rfl (fun K hK => c_sbM H rfl (s := t18) rfl Tryz.underlying37 Tryz.underlying5 9 (fun g w1 cap hf H1 => hK _ _ ?_)); clear hK K; clear H; have H := H1; clear H1; clear hf; (simp only [nrm, ↓reduceIte, Nat.reduceAdd])))
 (refine x_c H (lcount_any _ 1 (by decide) (HT.out.fr H.fr) C1) ?_; clear H; rintro e w1 ⟨rfl, hF⟩ H; clear hF)
 go_wp2_with (first | refine x_e (ev_strCat rfl rfl rfl (by assumption) (by (try simp only [List.length_cons, List.length_nil]); omega)) ?_ | (revert H; intro H; refine wl_rw rfl (fun K hK => c_sbM H rfl (s := t18) rfl Tryz.underlying37 Tryz.underlying5 9 (fun g w1 cap hf H1 => hK _ _ ?_)); clear hK K; clear H; have H := H1; clear H1; clear hf; (simp only [nrm, ↓reduceIte, Nat.reduceAdd])))
 (refine x_c H (lcount_any _ 0 (by decide) (HT.out.fr H.fr) C0) ?_; clear H; rintro e w1 ⟨rfl, hF⟩ H; clear hF)
 go_wp2_with (first | refine x_e (ev_strCat rfl rfl rfl (by assumption) (by (try simp only [List.length_cons, List.length_nil]); omega)) ?_ | (revert H; intro H; refine wl_rw rfl (fun K hK => c_sbM H rfl (s := t18) rfl Tryz.underlying37 Tryz.underlying5 9 (fun g w1 cap hf H1 => hK _ _ ?_)); clear hK K; clear H; have H := H1; clear H1; clear hf; (simp only [nrm, ↓reduceIte, Nat.reduceAdd])))
 (refine x_c H (lpad_any _ [40, 50, 73, 52, 41] 16 (by decide) (by decide) CB) ?_; clear H; rintro e w1 ⟨rfl, hF⟩ H; clear hF)
 go_wp2_with (first | refine x_e (ev_strCat rfl rfl rfl (by assumption) (by (try simp only [List.length_cons, List.length_nil]); omega)) ?_ | (revert H; intro H; refine wl_rw rfl (fun K hK => c_sbM H rfl (s := t18) rfl Tryz.underlying37 Tryz.underlying5 9 (fun g w1 cap hf H1 => hK _ _ ?_)); clear hK K; clear H; have H := H1; clear H1; clear hf; (simp only [nrm, ↓reduceIte, Nat.reduceAdd])))
 (refine x_c H (lpad_any _ [40, 73, 52, 41] 16 (by decide) (by decide) CD) ?_; clear H; rintro e w1 ⟨rfl, hF⟩ H; clear hF)
 go_wp2_with (first | refine x_e (ev_strCat rfl rfl rfl (by assumption) (by (try simp only [List.length_cons, List.length_nil]); omega)) ?_ | (revert H; intro H; refine wl_rw rfl (fun K hK => c_sbM H rfl (s := t18) rfl Tryz.underlying37 Tryz.underlying5 9 (fun g w1 cap hf H1 => hK _ _ ?_)); clear hK K; clear H; have H := H1; clear H1; clear hf; (simp only [nrm, ↓reduceIte, Nat.reduceAdd])))
 go_ret
 have hrd := (H.ob 9).rd
 refine ⟨some ⟨g, 0, none⟩, cap, ?_, H.fr, ?_⟩
 ·rw [← HS.out]; rfl
 ·rw [← HS.out]; exact hrd
theorem place6 (w : World) (a : Int) (ha : -9223372036854775808 ≤ a ∧ a ≤ 9223372036854775807) :
  Calls Tryz.prog 5 #[.int .i64 a, .int .i64 6] w fun e w' => ∃ k : Nat, e = .returned (.int .i64 (k : Int)) ∧ k < 6 ∧ Fr [] w w' := by
 have H := Hp.start [] w
 go_enter Tryz.func5, Tryz.ntmps5
 go_wp2_with (first | refine x_q H ?_ | refine x_cm (fun h => ?_) (fun h => ?_) | (revert H; refine x_g ?_; intro g w1 hg hf H; replace hf := hf.kp) | (revert H; refine x_s ?_; intro w1 hf H; clear hf))
 go_ret
 exact ⟨(a % 18446744073709551616 % 6).toNat, by rw [Int.toNat_of_nonneg (by omega)]; rfl, by omega, H.fr⟩
theorem place8 (w : World) (a : Int) (ha : -9223372036854775808 ≤ a ∧ a ≤ 9223372036854775807) :
  Calls Tryz.prog 5 #[.int .i64 a, .int .i64 8] w fun e w' => ∃ k : Nat, e = .returned (.int .i64 (k : Int)) ∧ k < 8 ∧ Fr [] w w' := by
 have H := Hp.start [] w
 go_enter Tryz.func5, Tryz.ntmps5
 go_wp2_with (first | refine x_q H ?_ | refine x_cm (fun h => ?_) (fun h => ?_) | (revert H; refine x_g ?_; intro g w1 hg hf H; replace hf := hf.kp) | (revert H; refine x_s ?_; intro w1 hf H; clear hf))
 go_ret
 exact ⟨(a % 18446744073709551616 % 8).toNat, by rw [Int.toNat_of_nonneg (by omega)]; rfl, by omega, H.fr⟩
theorem place11 (w : World) (a : Int) (ha : -9223372036854775808 ≤ a ∧ a ≤ 9223372036854775807) :
  Calls Tryz.prog 5 #[.int .i64 a, .int .i64 11] w fun e w' => ∃ k : Nat, e = .returned (.int .i64 (k : Int)) ∧ k < 11 ∧ Fr [] w w' := by
 have H := Hp.start [] w
 go_enter Tryz.func5, Tryz.ntmps5
 go_wp2_with (first | refine x_q H ?_ | refine x_cm (fun h => ?_) (fun h => ?_) | (revert H; refine x_g ?_; intro g w1 hg hf H; replace hf := hf.kp) | (revert H; refine x_s ?_; intro w1 hf H; clear hf))
 go_ret
 exact ⟨(a % 18446744073709551616 % 11).toNat, by rw [Int.toNat_of_nonneg (by omega)]; rfl, by omega, H.fr⟩
theorem place100000 (w : World) (a : Int) (ha : -9223372036854775808 ≤ a ∧ a ≤ 9223372036854775807) :
  Calls Tryz.prog 5 #[.int .i64 a, .int .i64 100000] w fun e w' => ∃ k : Nat, e = .returned (.int .i64 (k : Int)) ∧ k < 100000 ∧ Fr [] w w' := by
 have H := Hp.start [] w
 go_enter Tryz.func5, Tryz.ntmps5
 go_wp2_with (first | refine x_q H ?_ | refine x_cm (fun h => ?_) (fun h => ?_) | (revert H; refine x_g ?_; intro g w1 hg hf H; replace hf := hf.kp) | (revert H; refine x_s ?_; intro w1 hf H; clear hf))
 go_ret
 exact ⟨(a % 18446744073709551616 % 100000).toNat, by rw [Int.toNat_of_nonneg (by omega)]; rfl, by omega, H.fr⟩
theorem wf_range {a : Int} (h : (Lit.int .i64 a).wf = true) : -9223372036854775808 ≤ a ∧ a ≤ 9223372036854775807 := by simp [Lit.wf, IntKind.min, IntKind.max, IntKind.bits, IntKind.signed] at h; omega
end Go.Proofs.YtbiohhmpclnpgaaGreatDoor
namespace Go.Proofs.YtbiohhmpclnpgaaGreatDoor
open Go.RowKit
set_option linter.unusedSimpArgs false
set_option linter.unusedVariables false
set_option maxHeartbeats 8000000
set_option maxRecDepth 100000
attribute [local irreducible] wpList Code.wp Plan.wp
theorem la_of {W : World} (h : laidMetH Tryz.prog laid7 W) : La W := ⟨laid_tab7 h, laid_pow7 h⟩
theorem awakeB_any (w : World) (hT : La w) : Calls Tryz.prog 10 #[] w fun e w' => e = .returned (.bool true) ∧ Fr [] w w' := by
 have HT := hid hT
 have HO := hid awake_one
 clear hT
 have H := Hp.start [] w
 go_enter Tryz.func10, Tryz.ntmps10
 go_wp2_with (first | refine x_q H ?_ | refine x_cm (fun h => ?_) (fun h => ?_) | refine x_l H ?_ | (revert H; refine x_g ?_; (first | (have hh := g3; clear hh; intro g4 w1 hg hf H) | (have hh := g2; clear hh; intro g3 w1 hg hf H) | (have hh := g1; clear hh; intro g2 w1 hg hf H) | (have hh := g0; clear hh; intro g1 w1 hg hf H) | intro g0 w1 hg hf H); (first | replace hf := hf.kp | clear hf)) | (revert H; refine x_s ?_; intro w1 hf H; (first | replace hf := hf.kp | clear hf)) | (revert H; refine x_s (he := fun H K hK => c_stA H rfl rfl rfl (h := hK)) ?_; intro w1 hf H; clear hf))
 refine x_c H (one_any _ [40, 51, 70, 54, 46, 50, 41] v125 (by decide) (by decide) (HT.out.fr H.fr)) ?_
 clear H
 rintro e w1 ⟨p, c, rfl, hF, hrd⟩ H
 clear hF
 go_wp2_with (first | refine x_q H ?_ | refine x_cm (fun h => ?_) (fun h => ?_) | refine x_l H ?_ | (revert H; refine x_g ?_; (first | (have hh := g3; clear hh; intro g4 w1 hg hf H) | (have hh := g2; clear hh; intro g3 w1 hg hf H) | (have hh := g1; clear hh; intro g2 w1 hg hf H) | (have hh := g0; clear hh; intro g1 w1 hg hf H) | intro g0 w1 hg hf H); (first | replace hf := hf.kp | clear hf)) | (revert H; refine x_s ?_; intro w1 hf H; (first | replace hf := hf.kp | clear hf)) | (revert H; refine x_s (he := fun H K hK => c_stA H rfl rfl rfl (h := hK)) ?_; intro w1 hf H; clear hf))
 refine Calls.mono (parse_good _ _ (one_len HO.out.nf (by have := HO.out.nx; omega)) hrd (HT.out.fr H.fr) HO.out.lines (head_ok HO.out.nf HO.out.af HO.out.fmt_) (body_ok HO.out)) ?_
 clear hrd
 rintro e w1 ⟨hF, v1, v2, v3, B, rfl, hM, hB⟩
 obtain ⟨S1, S2, S3, H1⟩ := H.mat 2 3 4 hF hM hB
 clear H hF hM hB
 have H := H1
 clear H1
 obtain ⟨q1, d1, rfl, _⟩ := (H.rowo 2).form
 obtain ⟨q2, d2, rfl, _⟩ := (H.rowo 3).form
 obtain ⟨gv, d3, hvv, rfl⟩ := (H.rowo 4).some (by simp)
 subst hvv
 go_wp2_with (first | refine x_q H ?_ | refine x_cm (fun h => ?_) (fun h => ?_) | refine x_l H ?_ | (revert H; refine x_g ?_; (first | (have hh := g3; clear hh; intro g4 w1 hg hf H) | (have hh := g2; clear hh; intro g3 w1 hg hf H) | (have hh := g1; clear hh; intro g2 w1 hg hf H) | (have hh := g0; clear hh; intro g1 w1 hg hf H) | intro g0 w1 hg hf H); (first | replace hf := hf.kp | clear hf)) | (revert H; refine x_s ?_; intro w1 hf H; (first | replace hf := hf.kp | clear hf)) | (revert H; refine x_s (he := fun H K hK => c_stA H rfl rfl rfl (h := hK)) ?_; intro w1 hf H; clear hf))
 refine x_c H (parse_nil _) ?_
 clear H
 rintro e w1 ⟨rfl, hF⟩ H
 clear hF
 have hld := (H.rowo 4).cell (p := 0) (v := .int .u64 4608308318706860032) rfl
 go_wp2_with (first | refine x_e (ev_strEqB (s := sTitle) (r := [116, 105, 116, 108, 101]) (b := true) rfl rfl rfl (hid (by decide))) ?_ | refine x_e (c_l1O rfl rfl (H.rowo 4) (v := .int .u64 4608308318706860032) rfl) ?_ | refine x_q H ?_ | refine x_cm (fun h => ?_) (fun h => ?_) | refine x_l H ?_ | (revert H; refine x_g ?_; (first | (have hh := g3; clear hh; intro g4 w1 hg hf H) | (have hh := g2; clear hh; intro g3 w1 hg hf H) | (have hh := g1; clear hh; intro g2 w1 hg hf H) | (have hh := g0; clear hh; intro g1 w1 hg hf H) | intro g0 w1 hg hf H); (first | replace hf := hf.kp | clear hf)) | (revert H; refine x_s ?_; intro w1 hf H; (first | replace hf := hf.kp | clear hf)) | (revert H; refine x_s (he := fun H K hK => c_stA H rfl rfl rfl (h := hK)) ?_; intro w1 hf H; clear hf))
 go_ret
 exact ⟨rfl, H.fr⟩
end Go.Proofs.YtbiohhmpclnpgaaGreatDoor
